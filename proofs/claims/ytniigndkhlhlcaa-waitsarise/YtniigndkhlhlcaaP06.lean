import Derived.Test.YtniigndkhlhlcaaP01
import Derived.Test.YtniigndkhlhlcaaP05
import Derived.ProofKit
set_option linter.all false
/- The abstract evaluator, fast: what it asks of types stands in a table. Own work. -/
set_option linter.unusedVariables false
namespace Go.Ev
open Go

/-- What the evaluator asks of a type. -/
structure TI where
  und : Option TypeDesc
  info : Option Nat
  zs : Bool
  size : Nat
  bytes : Nat
  agg : Bool
  nil : Leaf
  elem : Option Ty
  zero : Option (List Leaf)
  eq : Option Ty
  key : Option (Ty × Ty)
  arr : Option Ty
  deriving Inhabited

def arrTy (P : Program) (t : TypeId) : Option Ty :=
  match P.underlying t with
  | some (.array n e) => match tyOf P e with
    | some τ => bif Nat.beq τ.width (sizeTy P e) && zeroIs P t [.ar n τ (List.replicate n τ.dflt)] then some τ else none
    | none => none
  | _ => none

def tiOf (P : Program) (t : TypeId) : TI where
  und := P.underlying t
  info := (P.info? t).map (·.size)
  zs := ((P.info? t).bind (·.zero)).isSome
  size := sizeTy P t
  bytes := bytesTy P t
  agg := aggTy P t
  nil := nilSl P t
  elem := elemTy P t
  zero := Ev.zero P t
  eq := bif P.eqGuardType P.depth t then none else eqTy P t
  key := keyTy P t
  arr := arrTy P t

namespace X

def mkV (T : TypeId → TI) (t : TypeId) (ls : List Leaf) : Option V :=
  match (T t).und with
  | some d => bif aggD d then some (.agg ls) else match ls with | [l] => (bif Nat.beq l.width 1 then some (.one l) else none) | _ => none
  | none => none

def typed (T : TypeId → TI) (t : TypeId) : AV → AV
  | .val (.one .nilsl) => .one ((T t).nil)
  | v => v

def leavesAs (T : TypeId → TI) (t : TypeId) (v : AV) : Option (List Leaf) :=
  match typed T t v with
  | .val v => bif Nat.beq (widths v.leaves) ((T t).size) then some v.leaves else none
  | _ => none

def readPtr (T : TypeId → TI) (m : Mem) (t : TypeId) (p : Leaf) (k : List Leaf → R) : R :=
  match p with
  | .ptr id off ix =>
    match m.get id with
    | some (.box _ ls) =>
      match ix with
      | none => opt (cutW ls off ((T t).size)) k
      | some (i, w, sub) =>
        match dropW ls off with
        | some (.ar n τ xs :: _) => gd (Nat.beq τ.width w && decide (i < n)) (opt (cutW (τ.leaves (xs.getD i τ.dflt)) sub ((T t).size)) k)
        | _ => none
    | some (.arr τ xs _) =>
      match off, ix with
      | 0, some (i, w, sub) => gd (Nat.beq τ.width w && decide (i < xs.length)) (opt (cutW (τ.leaves (xs.getD i τ.dflt)) sub ((T t).size)) k)
      | _, _ => none
    | some (.raw w els) =>
      match off, ix with
      | 0, some (i, w', sub) => gd (Nat.beq w w' && decide (i < els.length)) (opt (cutW (els.getD i []) sub ((T t).size)) k)
      | _, _ => none
    | _ => none
  | .cptr τ x off => opt (cutW (τ.leaves x) off ((T t).size)) k
  | _ => none

def aBin (T : TypeId → TI) (m : Mem) (op : BinOp) (t : TypeId) (x y : AV) (k : Leaf → R) : R :=
  match x, y with
  | .val (.one (.int κ a)), .val (.one (.int κ' b)) =>
    match op with
    | .shl => gd (decide (0 ≤ b)) (k (.int κ (κ.wrap (a * 2 ^ (min b.toNat κ.bits)))))
    | .shr => gd (decide (0 ≤ b)) (k (.int κ (a.fdiv (2 ^ (min b.toNat κ.bits)))))
    | op =>
      if κ = κ' then
        match op with
        | .add => k (.int κ (κ.wrap (a + b)))
        | .sub => k (.int κ (κ.wrap (a - b)))
        | .mul => k (.int κ (κ.wrap (a * b)))
        | .quo => gd (!(b == 0)) (k (.int κ (κ.wrap (a.tdiv b))))
        | .rem => gd (!(b == 0)) (k (.int κ (a.tmod b)))
        | .and => k (.int κ (κ.wrap ((BitVec.ofInt κ.bits a &&& BitVec.ofInt κ.bits b).toNat)))
        | .or => k (.int κ (κ.wrap ((BitVec.ofInt κ.bits a ||| BitVec.ofInt κ.bits b).toNat)))
        | .xor => k (.int κ (κ.wrap ((BitVec.ofInt κ.bits a ^^^ BitVec.ofInt κ.bits b).toNat)))
        | .andNot => k (.int κ (κ.wrap ((BitVec.ofInt κ.bits a &&& ~~~ BitVec.ofInt κ.bits b).toNat)))
        | .eql => k (.bool (a == b))
        | .neq => k (.bool (a != b))
        | .lss => k (.bool (decide (a < b)))
        | .leq => k (.bool (decide (a ≤ b)))
        | .gtr => k (.bool (decide (a > b)))
        | .geq => k (.bool (decide (a ≥ b)))
        | _ => none
      else none
  | .val (.one (.str a)), .val (.one (.str b)) =>
    match op with
    | .add => gd (decide (a.length + b.length ≤ 1073741824)) (k (.str (a ++ b)))
    | .eql => k (.bool (a == b))
    | .neq => k (.bool (!(a == b)))
    | .lss => k (.bool (Op.bytesLess a b))
    | _ => none
  | .val (.one (.bool a)), .val (.one (.bool b)) =>
    match op, (T t).und with
    | .eql, some .bool => k (.bool (a == b))
    | .neq, some .bool => k (.bool (!(a == b)))
    | _, _ => none
  | .val (.one .nilptr), .val (.one .nilptr) =>
    match op, (T t).und with | .eql, some (.pointer _) => k (.bool true) | .neq, some (.pointer _) => k (.bool false) | _, _ => none
  | .val (.one (.ptr ..)), .val (.one .nilptr) | .val (.one (.cptr ..)), .val (.one .nilptr) =>
    match op, (T t).und with | .eql, some (.pointer _) => k (.bool false) | .neq, some (.pointer _) => k (.bool true) | _, _ => none
  | .val (.one .nilfn), .val (.one .nilfn) =>
    match op, (T t).und with | .eql, some (.func ..) => k (.bool true) | .neq, some (.func ..) => k (.bool false) | _, _ => none
  | .val (.one (.fn ..)), .val (.one .nilfn) =>
    match op, (T t).und with | .eql, some (.func ..) => k (.bool false) | .neq, some (.func ..) => k (.bool true) | _, _ => none
  | .val (.one (.sl _ _ (some b) _)), .val (.one .nilsl) =>
    match op, (T t).und with | .eql, some (.slice _) => k (.bool b) | .neq, some (.slice _) => k (.bool (!b)) | _, _ => none
  | .val (.one .nilsl), .val (.one .nilsl) =>
    match op, (T t).und with | .eql, some (.slice _) => k (.bool true) | .neq, some (.slice _) => k (.bool false) | _, _ => none
  | .val (.one (.sl _ xs none _)), .val (.one .nilsl) =>
    match op, (T t).und with | .eql, some (.slice _) => gd (!xs.isEmpty) (k (.bool false)) | .neq, some (.slice _) => gd (!xs.isEmpty) (k (.bool true)) | _, _ => none
  | .val (.one (.ref id v _)), .val (.one .nilsl) =>
    match m.get id with
    | some (.arr _ xs _) => match op, (T t).und with | .eql, some (.slice _) => gd (decide (0 < v.len xs)) (k (.bool false)) | .neq, some (.slice _) => gd (decide (0 < v.len xs)) (k (.bool true)) | _, _ => none
    | _ => none
  | .val (.agg xs), .val (.agg ys) =>
    match op, (T t).eq with
    | .eql, some τ => gd ((T t).agg) <| opt (τ.read xs) fun x => opt (τ.read ys) fun y => k (.bool (τ.beq x y))
    | .neq, some τ => gd ((T t).agg) <| opt (τ.read xs) fun x => opt (τ.read ys) fun y => k (.bool (!(τ.beq x y)))
    | _, _ => none
  | _, _ => none

def aIndexAddr (T : TypeId → TI) (m : Mem) (t : TypeId) (x : Leaf) (i : Int) (k : Leaf → R) : R :=
  match (T t).und with
  | some (.array n e) =>
    match (T e).info with
    | some ie =>
      match x with
      | .ptr id off none => gd (decide (0 ≤ i) && decide (i < n)) (k (.ptr id off (some (i.toNat, ie, 0))))
      | .cptr (.ar n' e') xs 0 =>
        gd (Nat.beq n n' && Nat.beq e'.width ie && decide (0 ≤ i) && decide (i < n) && decide (i < xs.length)) (k (.cptr e' (xs.getD i.toNat e'.dflt) 0))
      | _ => none
    | none => none
  | some (.slice e) =>
    match (T e).info with
    | some ie =>
      match x with
      | .sl τ xs _ _ => gd (Nat.beq τ.width ie && decide (0 ≤ i) && decide (i < xs.length)) (k (.cptr τ (xs.getD i.toNat τ.dflt) 0))
      | .ref id v _ =>
        match (m.get id).bind Obj.row with
        | some (wd, n) => gd (Nat.beq wd ie && decide (0 ≤ i) && decide (i < v.lenN n)) (k (.ptr id 0 (some (v.off + i.toNat, wd, 0))))
        | none => none
      | _ => none
    | none => none
  | _ => none

def aIndex (T : TypeId → TI) (t : TypeId) (x : AV) (i : Int) (k : AV → R) : R :=
  match (T t).und, x with
  | some .string, .val (.one (.str s)) => gd (decide (0 ≤ i) && decide (i < s.length)) (k (.one (.int .u8 (s.getD i.toNat 0).toNat)))
  | some (.array n e), .val (.agg [.ar n' τ xs]) =>
    match (T e).info with
    | some ie => gd (Nat.beq n n' && Nat.beq τ.width ie && decide (0 ≤ i) && decide (i < n)) (opt (mkV T e (τ.leaves (xs.getD i.toNat τ.dflt))) fun v => k (.val v))
    | none => none
  | _, _ => none

def fieldOf (T : TypeId → TI) (t : TypeId) (f : Nat) : Option Field :=
  match (T t).und with
  | some (.struct fs) => fs[f]?
  | _ => none

def aFieldAddr (T : TypeId → TI) (t : TypeId) (x : Leaf) (f : Nat) (k : Leaf → R) : R :=
  match fieldOf T t f with
  | some fl =>
    bif Nat.beq ((T fl.type).size) 0 then none else
    match x with
    | .ptr id off none => k (.ptr id (off + fl.offset) none)
    | .ptr id off (some (i, w, sub)) => k (.ptr id off (some (i, w, sub + fl.offset)))
    | .cptr τ y off => k (.cptr τ y (off + fl.offset))
    | _ => none
  | none => none

def buildStruct (T : TypeId → TI) (fs : Array Field) : List (Nat × AV) → List Leaf → Option (List Leaf)
  | [], ls => some ls
  | (i, v) :: r, ls =>
    match fs[i]? with
    | some f => match leavesAs T f.type v with
      | some new => match putW ls f.offset new with
        | some ls' => buildStruct T fs r ls'
        | none => none
      | none => none
    | none => none

def buildElems (T : TypeId → TI) (m : Mem) (e : TypeId) (τ : Ty) : List (Nat × AV) → List τ.El → Option (List τ.El)
  | [], xs => some xs
  | (i, v) :: r, xs =>
    match leavesAs T e v with
    | some new => match τ.read (new.map (frzSome m)) with
      | some y => bif Nat.blt i xs.length then buildElems T m e τ r (xs.set i y) else none
      | none => none
    | none => none

def buildRaw (T : TypeId → TI) (e : TypeId) : List (Nat × AV) → List (List Leaf) → Option (List (List Leaf))
  | [], xs => some xs
  | (i, v) :: r, xs =>
    match leavesAs T e v with
    | some new => bif Nat.blt i xs.length then buildRaw T e r (xs.set i new) else none
    | none => none

def aBuild (T : TypeId → TI) (m : Mem) (t : TypeId) (parts : List (Nat × AV)) (k : AV → Mem → R) : R :=
  match (T t).und with
  | some (.struct fs) => opt ((T t).zero) fun z => opt (buildStruct T fs parts z) fun ls => k (.agg ls) m
  | some (.array n e) =>
    match (T t).arr with
    | some τ => opt (buildElems T m e τ parts (List.replicate n τ.dflt)) fun xs => k (.agg [.ar n τ xs]) (readOnly (partIds parts) m)
    | none => none
  | _ => none

def rawSlice (T : TypeId → TI) (m : Mem) (d : Option Tmp) (e : TypeId) (n : Nat) (parts : List (Nat × AV)) (k : AV → Mem → R) : R :=
  match (T e).info with
  | some i =>
    bif (T e).zs then
      match buildRaw T e parts (List.replicate n []) with
      | some els => bif allWide i els then allocAt m d (.raw i els) fun id m' => k (.one (.ref id (.tail 0) (some n))) m' else none
      | none => none
    else none
  | none => none

def aBuildSlice (T : TypeId → TI) (m : Mem) (d : Option Tmp) (t : TypeId) (n : Nat) (parts : List (Nat × AV)) (k : AV → Mem → R) : R :=
  match (T t).und with
  | some (.slice e) =>
    bif Nat.blt 100000 (n * (T e).size) then none else
    match (T t).elem with
    | some τ =>
      match buildElems T m e τ parts (List.replicate n τ.dflt) with
      | some xs => allocAt (readOnly (partIds parts) m) d (.arr τ xs false) fun id m' => k (.one (.ref id (.tail 0) (some n))) m'
      | none => rawSlice T m d e n parts k
    | none => rawSlice T m d e n parts k
  | _ => none

def fits (T : TypeId → TI) (e : TypeId) (n : Nat) : Bool := decide (n * (T e).bytes ≤ 70368744177664) && decide (n ≤ 1099511627776)

def appendTo (T : TypeId → TI) (m : Mem) (d : Option Tmp) (e : TypeId) (τ : Ty) (base : Leaf) (ys : List τ.El) (k : AV → Mem → R) : R :=
  let new (xs : List τ.El) : R := gd (fits T e xs.length) (allocAt m d (.arr τ xs false) fun id m' => k (.one (.ref id (.tail 0) none)) m')
  match base with
  | .nilsl => new ys
  | .sl σ xs _ lim =>
    match lim with
    | some 0 =>
      match xs with
      | [] => new ys
      | _ => none
    | some c => if h : σ = τ then gd (decide (c < xs.length + ys.length)) (new ((h ▸ xs) ++ ys)) else none
    | none => none
  | .ref id v lim =>
    match m.get id with
    | some (.arr σ xs ro) =>
      if h : σ = τ then
        let xs : List τ.El := h ▸ xs
        -- an array of the call's own that grows is another one; the elder one is not looked at again
        let grown (v' : View) (lim' : Option Nat) (zs : List τ.El) : R :=
          gd (fits T e zs.length) (allocAt (m.set id .dead) d (.arr τ zs ro) fun id' m' => k (.one (.ref id' v' lim')) m')
        let over (lim' : Option Nat) : R :=
          bif ro then none else
            k (.one (.ref id (.sub v.off (v.len xs + ys.length)) lim')) (m.set id (.arr τ (xs.take (v.off + v.len xs) ++ ys ++ xs.drop (v.off + v.len xs + ys.length)) false))
        match lim, v with
        | none, .tail o => grown (.tail 0) none ((View.tail o).sees xs ++ ys)
        | none, .sub off n => gd (decide (off + n + ys.length ≤ xs.length)) (over none)
        | some c, .tail o => cond (decide ((View.tail o).len xs + ys.length ≤ c)) (grown (.tail o) (some c) (xs ++ ys)) (new ((View.tail o).sees xs ++ ys))
        | some c, .sub off n => cond (decide (n + ys.length ≤ c)) (gd (decide (off + n + ys.length ≤ xs.length)) (over (some c))) (new ((View.sub off n).sees xs ++ ys))
      else none
    | _ => none
  | _ => none

def aAppend (T : TypeId → TI) (m : Mem) (d : Option Tmp) (argTypes : List TypeId) (args : List AV) (k : AV → Mem → R) : R :=
  match argTypes, args with
  | [t, t'], [s, x] =>
    match (T t).und, (T t).elem, (T t').und with
    | some (.slice e), some τ, some D =>
      oneK s fun s => oneK x fun x =>
      bif isIntD D then
        match x with
        | .int .i64 n => gd (decide (0 ≤ n) && decide (n ≤ 1099511627776) && decide (n * (T e).bytes ≤ 70368744177664)) (appendTo T m d e τ s (List.replicate n.toNat τ.dflt) k)
        | _ => none
      else sourceK m τ x fun ys => appendTo T m d e τ s ys k
    | _, _, _ => none
  | _, _ => none

def aCopy (T : TypeId → TI) (m : Mem) (argTypes : List TypeId) (args : List AV) (k : AV → Mem → R) : R :=
  match argTypes, args with
  | t :: _, [s, x] =>
    match (T t).elem with
    | some τ =>
      oneK s fun s => oneK x fun x =>
      match s with
      | .ref id v _ =>
        match m.get id with
        | some (.arr σ xs false) =>
          if h : σ = τ then
            let xs : List τ.El := h ▸ xs
            sourceK m τ x fun ys =>
              let n := min ys.length (v.len xs)
              k (.one (.int .i64 n)) (m.set id (.arr τ (xs.take v.off ++ ys.take n ++ xs.drop (v.off + n)) false))
          else none
        | _ => none
      | _ => none
    | none => none
  | _, _ => none

def aClear (T : TypeId → TI) (m : Mem) (argTypes : List TypeId) (args : List AV) (k : AV → Mem → R) : R :=
  match argTypes, args with
  | [t], [s] =>
    match (T t).elem with
    | some τ =>
      oneK s fun s =>
      match s with
      | .ref id v _ =>
        match m.get id with
        | some (.arr σ xs false) =>
          if h : σ = τ then
            let xs : List τ.El := h ▸ xs
            k (.tup []) (m.set id (.arr τ (xs.take v.off ++ List.replicate (v.len xs) τ.dflt ++ xs.drop (v.off + v.len xs)) false))
          else none
        | _ => none
      | _ => none
    | none => none
  | _, _ => none

def aBuiltin (T : TypeId → TI) (m : Mem) (d : Option Tmp) (b : Builtin) (argTypes : List TypeId) (args : List AV) (k : AV → Mem → R) : R :=
  match b with
  | .append => aAppend T m d argTypes args k
  | .copy => aCopy T m argTypes args k
  | .clear => aClear T m argTypes args k
  | .len =>
    match argTypes, args with
    | [t], [x] =>
      match (T t).und, x with
      | some (.array n _), _ => k (.one (.int .i64 n)) m
      | some .string, .val (.one (.str s)) => k (.one (.int .i64 s.length)) m
      | some (.slice _), .val (.one (.str _)) => none
      | some (.slice _), .val (.one l) => lenOf m l fun n => k (.one (.int .i64 n)) m
      | some (.map _ _), .val (.one .nilmap) => k (.one (.int .i64 0)) m
      | some (.map _ _), .val (.one (.map id)) => match m.get id with | some (.map _ _ _ es) => k (.one (.int .i64 es.length)) m | _ => none
      | _, _ => none
    | _, _ => none
  | .cap =>
    match argTypes, args with
    | [t], [x] =>
      match (T t).und with
      | some (.slice _) => oneK x fun l => match l with
        | .sl _ _ _ (some c) => k (.one (.int .i64 c)) m
        | .ref id _ (some c) => bif ((m.get id).bind Obj.row).isSome then k (.one (.int .i64 c)) m else none
        | .nilsl => k (.one (.int .i64 0)) m
        | _ => none
      | _ => none
    | _, _ => none
  | .max => match args with | v :: r => oneK v fun l => minMax true r l fun l => k (.one l) m | _ => none
  | .min => match args with | v :: r => oneK v fun l => minMax false r l fun l => k (.one l) m | _ => none
  | _ => none

def aLookup (T : TypeId → TI) (m : Mem) (t : TypeId) (x key : AV) (ok : Bool) (k : AV → R) : R :=
  match (T t).und, (T t).key with
  | some (.map _ b), some (κ, τ) =>
    match key with
    | .val (.one kl) =>
      opt (κ.read [kl]) fun key =>
      let out (v : τ.El) (there : Bool) : R := opt (mkV T b (τ.leaves v)) fun x => k (bif ok then .tup [x, .one (.bool there)] else .val x)
      match x with
      | .val (.one .nilmap) => out τ.dflt false
      | .val (.one (.map id)) =>
        match m.get id with
        | some (.map _ κ' τ' es) =>
          if h : κ' = κ then (if h' : τ' = τ then
            let es : List (κ.El × τ.El) := h ▸ h' ▸ es
            match assoc κ τ key es with
            | some v => out v true
            | none => out τ.dflt false
          else none) else none
        | _ => none
      | _ => none
    | _ => none
  | _, _ => none

def aUpdate (T : TypeId → TI) (m : Mem) (t : TypeId) (x key v : AV) (k : Mem → R) : R :=
  match (T t).key, x, key, v with
  | some (κ, τ), .val (.one (.map id)), .val kv, .val vv =>
    opt (κ.read kv.leaves) fun key => opt (τ.read vv.leaves) fun v =>
    bif kv.isAgg || !(vv.isAgg == τ.isAgg) then none else
    match m.get id with
    | some (.map false κ' τ' es) =>
      if h : κ' = κ then (if h' : τ' = τ then
        let es : List (κ.El × τ.El) := h ▸ h' ▸ es
        k (m.set id (.map false κ τ (assocSet κ τ key v es)))
      else none) else none
    | _ => none
  | _, _, _, _ => none

def aConvert (T : TypeId → TI) (m : Mem) (d : Option Tmp) (s t : TypeId) (x : AV) (k : AV → Mem → R) : R :=
  match (T s).und, (T t).und, x with
  | some _, some (.int κ), .val (.one (.int _ n)) => k (.one (.int κ (κ.wrap n))) m
  | some _, some .string, .val (.one (.str b)) => k (.one (.str b)) m
  | some (.slice e), some .string, .val (.one l) =>
    match (T e).und with
    | some (.int .u8) => seesAs m (.int .u8) l fun xs => k (.one (.str (xs.map fun n => UInt8.ofNat n.toNat))) m
    | _ => none
  | some .string, some (.slice e), .val (.one (.str b)) =>
    match (T e).und with
    | some (.int .u8) => gd (decide (b.length ≤ 1073741824)) (allocAt m d (.arr (.int .u8) (strEls b) false) fun id m' => k (.one (.ref id (.tail 0) none)) m')
    | _ => none
  | _, _, _ => none

/-! ### forcing: the value is worked out before one goes on -/
def fNat (n : Nat) (k : Nat → R) : R := match n with | 0 => k 0 | m + 1 => k (Nat.add m 1)
def fNats (l : List Nat) (k : List Nat → R) : R := match l with | [] => k [] | n :: r => fNat n fun n => fNats r fun r => k (n :: r)

/-- 'comeBack', the new names worked out first. -/
def comeBackX (m m' : Mem) (d : Nat) (ids : List Nat) (r : AV) (k : List Nat → AV → Mem → R) : R :=
  fNats (notBelow ids.length (reach m' reachFuel (List.range ids.length ++ r.ids) [])) fun new =>
  gd (freshFrom m (newId d 0) new.length) (k new (r.ren (backName d ids new)) (putBack m m' (backName d ids new) ids 0 ++ pickMem m' (backName d ids new) (newId d) new 0))

/-! ### calls -/
structure Cfg where
  T : TypeId → TI
  pol : FuncId → Pol
  /-- May a function's results hold slices? -/
  sr : FuncId → Bool
  H : FuncId → List AV → Mem → AK → R

abbrev Env := Operand → AV

def doCall (C : Cfg) (m : Mem) (d : Option Tmp) (f : FuncId) (args : List AV) (k : AV → Mem → R) : R :=
  match C.pol f with
  | .pure =>
    opt (frzAll m args) fun args' =>
    C.H f args' [] fun r m' => opt (frz m' r) fun r' => k r' (bif r'.anySl then readOnly (avsIds args) m else m)
  | .fresh =>
    opt (frzAll m args) fun args' =>
    C.H f args' [] fun r m' => comeBackX (readOnly (avsIds args) m) m' (d.getD 0) [] r fun _ => k
  | .read q =>
    fNats (reach m reachFuel (avsIds args) []) fun ids =>
    bif closedFrom m ids ids then
      opt (q (renAVs (fun i => idx? i ids 0) args) (pickMem m (fun i => idx? i ids 0) id ids 0)) fun v => opt (frz [] v) fun v' => bif v'.anySl then none else k v' m
    else none
  | .share =>
    fNats (reach m reachFuel (avsIds args) []) fun ids =>
    C.H f (renAVs (fun i => idx? i ids 0) args) (pickMem m (fun i => idx? i ids 0) id ids 0) fun r m' => comeBackX m m' (d.getD 0) ids r fun _ => k

def aCall (C : Cfg) (ρ : Env) (m : Mem) (d : Option Tmp) (c : Call) (k : AV → Mem → R) : R :=
  match c.callee with
  | .builtin b => aBuiltin C.T m d b c.argTypes.toList (c.args.toList.map ρ) k
  | .value f => oneK (ρ f) fun l =>
    match l with
    | .fn f first cap => doCall C m d f (ptrs first ++ (c.args.toList.map ρ) ++ ptrs cap) k
    | _ => none
  | .invoke _ _ => none

/-! ### one operation -/
def aOp (C : Cfg) (o : Oper) (ρ : Env) (m : Mem) (k : AV → Mem → R) : R :=
  match o.op with
  | .move x | .assign x => k (typed C.T o.type (ρ x)) m
  | .pick c a b => boolK (ρ c) fun t => cond t (k (ρ a) m) (k (ρ b) m)
  | .alloc e => opt ((C.T e).zero) fun z => allocAt m o.dst (.box false z) fun id m' => k (.one (.ptr id 0 none)) m'
  | .box e x => opt (leavesAs C.T e (ρ x)) fun ls => allocAt m o.dst (.box false ls) fun id m' => k (.one (.ptr id 0 none)) m'
  | .build t parts => aBuild C.T m t (parts.toList.map fun (i, x) => (i, ρ x)) k
  | .buildSlice t n parts => aBuildSlice C.T m o.dst t n (parts.toList.map fun (i, x) => (i, ρ x)) k
  | .load t a => oneK (ρ a) fun p => readPtr C.T m t p fun ls => opt (mkV C.T t ls) fun v => k (.val v) m
  | .store t a x => bif (C.T t).info.isSome then oneK (ρ a) fun p => opt (leavesAs C.T t (ρ x)) fun ls => writePtr m p ls fun m' => k .skip m' else none
  | .nilCheck x => oneK (ρ x) fun p => match p with
    | .ptr .. | .cptr .. | .fn .. => k (.one p) m
    | _ => none
  | .binOp op t x y _ => aBin C.T m op t (ρ x) (ρ y) fun l => k (.one l) m
  | .unOp op _ x => oneK (ρ x) fun l => aUn op l fun l => k (.one l) m
  | .convert s t x => aConvert C.T m o.dst s t (ρ x) k
  | .makeFunc (.func f) first cap =>
    opt (envIds (first.toList.map ρ)) fun a => opt (envIds (cap.toList.map ρ)) fun b => k (.one (.fn f a b)) m
  | .makeMap t none =>
    match (C.T t).key with
    | some (κ, τ) => allocAt m o.dst (.map false κ τ []) fun id m' => k (.one (.map id)) m'
    | none => none
  | .makeSlice t l c =>
    match (C.T t).und, (C.T t).elem with
    | some (.slice e), some τ =>
      intK (ρ l) fun _ l => intK (ρ c) fun _ c =>
      gd (decide (0 ≤ l) && decide (l = c) && decide (l ≤ 1073741824) && decide (l * (C.T e).bytes ≤ 1073741824))
        (allocAt m o.dst (.arr τ (List.replicate l.toNat τ.dflt) false) fun id m' => k (.one (.ref id (.tail 0) (some l.toNat))) m')
    | _, _ => none
  | .slice t x lo hi mx =>
    match (C.T t).und with
    | some .string => oneK (ρ x) fun x => aSliceStr x (lo.map ρ) (hi.map ρ) (mx.map ρ) fun l => k (.one l) m
    | some (.slice e) =>
      match (C.T e).info with
      | some i => oneK (ρ x) fun x => aSlice m i x (lo.map ρ) (hi.map ρ) (mx.map ρ) fun l => k (.one l) m
      | none => none
    | _ => none
  | .fieldAddr s x f => oneK (ρ x) fun p => aFieldAddr C.T s p f fun l => k (.one l) m
  | .field t x f => match ρ x, fieldOf C.T t f with
    | .val (.agg ls), some fl => opt (cutW ls fl.offset (C.T fl.type).size) fun r => opt (mkV C.T fl.type r) fun v => k (.val v) m
    | _, _ => none
  | .indexAddr t x i => oneK (ρ x) fun p => intK (ρ i) fun _ i => aIndexAddr C.T m t p i fun l => k (.one l) m
  | .index t x i => intK (ρ i) fun _ i => aIndex C.T t (ρ x) i fun v => k v m
  | .lookup t x i ok => aLookup C.T m t (ρ x) (ρ i) ok fun v => k v m
  | .mapUpdate t x i v | .insert t x i v => aUpdate C.T m t (ρ x) (ρ i) (ρ v) fun m' => k .skip m'
  | .extract x i => match ρ x with
    | .tup vs => opt vs[i]? fun v => k (.val v) m
    | _ => none
  | .call c => aCall C ρ m o.dst c k
  | _ => none

end X
end Go.Ev

/- The abstract evaluator, fast: it is the same. Own work. -/
set_option linter.unusedSimpArgs false
set_option linter.unusedVariables false
namespace Go.Ev
open Go

section
variable (P : Program)

theorem X_mkV : X.mkV (tiOf P) = mkV P := rfl
theorem X_typed : X.typed (tiOf P) = typed P := rfl
theorem X_leavesAs : X.leavesAs (tiOf P) = leavesAs P := rfl
theorem X_readPtr : X.readPtr (tiOf P) = readPtr P := rfl
theorem X_aBin : X.aBin (tiOf P) = aBin P := rfl
theorem X_aIndexAddr (m : Mem) (t : TypeId) (x : Leaf) (i : Int) (k : Leaf → R) : X.aIndexAddr (tiOf P) m t x i k = aIndexAddr P m t x i k := by
  unfold X.aIndexAddr aIndexAddr
  simp only [tiOf]
  cases P.underlying t with
  | none => rfl
  | some d =>
    cases d <;> first | rfl | skip
    all_goals (rename_i e; cases he : P.info? e <;> simp only [he, Option.map_some, Option.map_none] <;> rfl)
theorem X_aIndex (t : TypeId) (x : AV) (i : Int) (k : AV → R) : X.aIndex (tiOf P) t x i k = aIndex P t x i k := by
  unfold X.aIndex aIndex
  simp only [tiOf, X_mkV]
  generalize P.underlying t = u
  split
  · rfl
  · rename_i n e _ _ _
    simp only
    cases P.info? e <;> rfl
  · rename_i h1 h2
    split
    · exact (h1 _ rfl rfl).elim
    · exact (h2 _ _ _ _ _ rfl rfl).elim
    · rfl
theorem X_fieldOf : X.fieldOf (tiOf P) = fieldOf P := rfl
theorem X_aFieldAddr : X.aFieldAddr (tiOf P) = aFieldAddr P := rfl
theorem X_buildStruct (fs : Array Field) : ∀ (l : List (Nat × AV)) (ls : List Leaf), X.buildStruct (tiOf P) fs l ls = buildStruct P fs l ls
  | [], ls => rfl
  | (i, v) :: r, ls => by
    simp only [X.buildStruct, buildStruct, X_leavesAs]
    cases fs[i]? with
    | none => rfl
    | some f =>
      simp only
      cases leavesAs P f.type v with
      | none => rfl
      | some new =>
        simp only
        cases putW ls f.offset new with
        | none => rfl
        | some ls' => exact X_buildStruct fs r _
theorem X_buildElems (m : Mem) (e : TypeId) (τ : Ty) : ∀ (l : List (Nat × AV)) (xs : List τ.El), X.buildElems (tiOf P) m e τ l xs = buildElems P m e τ l xs
  | [], ls => rfl
  | (i, v) :: r, ls => by
    simp only [X.buildElems, buildElems, X_leavesAs]
    cases leavesAs P e v with
    | none => rfl
    | some new =>
      simp only
      cases τ.read (new.map (frzSome m)) with
      | none => rfl
      | some y => simp only [X_buildElems m e τ r]
theorem X_buildRaw (e : TypeId) : ∀ (l : List (Nat × AV)) (xs : List (List Leaf)), X.buildRaw (tiOf P) e l xs = buildRaw P e l xs
  | [], ls => rfl
  | (i, v) :: r, ls => by
    simp only [X.buildRaw, buildRaw, X_leavesAs]
    cases leavesAs P e v with
    | none => rfl
    | some new => simp only [X_buildRaw e r]
theorem X_aBuild (m : Mem) (t : TypeId) (parts : List (Nat × AV)) (k : AV → Mem → R) : X.aBuild (tiOf P) m t parts k = aBuild P m t parts k := by
  unfold X.aBuild aBuild
  simp only [tiOf, X_buildStruct, X_buildElems, arrTy]
  cases hd : P.underlying t with
  | none => rfl
  | some d =>
    cases d <;> simp only <;> first | rfl | skip
    rename_i n e
    cases tyOf P e with
    | none => rfl
    | some τ =>
      simp only
      generalize (Nat.beq τ.width (sizeTy P e) && zeroIs P t [.ar n τ (List.replicate n τ.dflt)]) = b
      cases b <;> rfl
theorem X_rawSlice (m : Mem) (d : Option Tmp) (e : TypeId) (n : Nat) (parts : List (Nat × AV)) (k : AV → Mem → R) : X.rawSlice (tiOf P) m d e n parts k = rawSlice P m d e n parts k := by
  unfold X.rawSlice rawSlice
  simp only [tiOf, X_buildRaw]
  cases he : P.info? e <;> simp only [he, Option.map_some, Option.map_none, Option.bind_some, Option.bind_none] <;> rfl
theorem X_aBuildSlice (m : Mem) (d : Option Tmp) (t : TypeId) (n : Nat) (parts : List (Nat × AV)) (k : AV → Mem → R) : X.aBuildSlice (tiOf P) m d t n parts k = aBuildSlice P m d t n parts k := by
  unfold X.aBuildSlice aBuildSlice
  simp only [X_buildElems, X_rawSlice]
  rfl
theorem X_fits : X.fits (tiOf P) = fits P := rfl
theorem X_appendTo : X.appendTo (tiOf P) = appendTo P := rfl
theorem X_aAppend : X.aAppend (tiOf P) = aAppend P := rfl
theorem X_aCopy : X.aCopy (tiOf P) = aCopy P := rfl
theorem X_aClear : X.aClear (tiOf P) = aClear P := rfl
theorem X_aBuiltin : X.aBuiltin (tiOf P) = aBuiltin P := rfl
theorem X_aLookup : X.aLookup (tiOf P) = aLookup P := rfl
theorem X_aUpdate : X.aUpdate (tiOf P) = aUpdate P := rfl
theorem X_aConvert : X.aConvert (tiOf P) = aConvert P := rfl
end

/-- The base evaluator's set-up. -/
def X.Cfg.of (C : Ev.Cfg) : X.Cfg := { T := tiOf C.P, pol := C.pol, sr := slRes C.P, H := C.H }

theorem X.fNat_eq (n : Nat) (k : Nat → R) : X.fNat n k = k n := by cases n <;> rfl
theorem X.fNats_eq : ∀ (l : List Nat) (k : List Nat → R), X.fNats l k = k l
  | [], k => rfl
  | n :: r, k => by simp only [X.fNats, X.fNat_eq, X.fNats_eq r]
theorem X_comeBack (m m' : Mem) (d : Nat) (ids : List Nat) (r : AV) (k : AV → Mem → R) : (X.comeBackX m m' d ids r fun _ => k) = comeBack m m' d ids r k := by
  unfold X.comeBackX comeBack
  rw [X.fNats_eq]

theorem X_doCall (C : Ev.Cfg) (m : Mem) (d : Option Tmp) (f : FuncId) (args : List AV) (k : AV → Mem → R) : X.doCall (X.Cfg.of C) m d f args k = Ev.doCall C m d f args k := by
  unfold X.doCall Ev.doCall
  simp only [X_comeBack, X.fNats_eq]
  rfl
theorem X_aCall (C : Ev.Cfg) (st : St) (d : Option Tmp) (c : Call) (k : AV → Mem → R) : X.aCall (X.Cfg.of C) (ev st) st.mem d c k = Ev.aCall C st d c k := by
  unfold X.aCall Ev.aCall
  simp only [X_doCall]
  rfl

theorem X_aOp (C : Ev.Cfg) (o : Oper) (st : St) (k : AV → Mem → R) : X.aOp (X.Cfg.of C) o (ev st) st.mem k = Ev.aOp C o st k := by
  unfold X.aOp Ev.aOp
  cases o.op
  case makeFunc f first cap => cases f <;> rfl
  case makeMap t r => cases r <;> rfl
  all_goals simp only [X.Cfg.of, X_typed, X_leavesAs, X_aBuild, X_aBuildSlice, X_readPtr, X_mkV, X_aBin, X_aConvert, X_aFieldAddr, X_fieldOf, X_aIndexAddr, X_aIndex, X_aLookup, X_aUpdate]
  all_goals try rfl
  case call c => exact X_aCall C st o.dst c k
  case store t a x =>
    simp only [tiOf]
    cases P : C.P.info? t <;> rfl
  case slice t x lo hi mx =>
    simp only [tiOf]
    cases C.P.underlying t with
    | none => rfl
    | some d =>
      cases d <;> simp only <;> try rfl
      rename_i e
      cases C.P.info? e <;> rfl

end Go.Ev

/- The abstract evaluator: slices as arrays of their own: what is done. Own work. -/
set_option linter.unusedVariables false
namespace Go.Ev
open Go

def ownStart : Nat := 200000000

/-- Worked out before one goes on. -/
def oNat (n : Nat) (k : Nat → R) : R := match n with | 0 => k 0 | m + 1 => k (Nat.add m 1)
def oObj (o : Obj) (k : Obj → R) : R :=
  match o with
  | .box ro ls => k (.box ro ls)
  | .arr τ xs ro => k (.arr τ xs ro)
  | .raw w els => k (.raw w els)
  | .map ro κ τ es => k (.map ro κ τ es)
  | .dead => k .dead
def oMem : Mem → (Mem → R) → R
  | [], k => k []
  | (i, o) :: r, k => oNat i fun i => oObj o fun o => oMem r fun r => k ((i, o) :: r)
theorem oNat_eq (n : Nat) (k : Nat → R) : oNat n k = k n := by cases n <;> rfl
theorem oObj_eq (o : Obj) (k : Obj → R) : oObj o k = k o := by cases o <;> rfl
theorem oMem_eq : ∀ (m : Mem) (k : Mem → R), oMem m k = k m
  | [], k => rfl
  | (i, o) :: r, k => by rw [oMem, oNat_eq, oObj_eq, oMem_eq r]

/-- Slices of arrays of the call's own, and nil slices, become arrays of their own; 'n' counts. -/
def ownLeafK (n : Nat) (l : Leaf) (m : Mem) (k : Nat → Leaf → Mem → R) : R :=
  match l with
  | .ref id v _ =>
    match m.get id with
    | some (.arr τ xs false) => (match m.get n with | none => oNat (Nat.add n 1) fun n' => oMem ((m.set id .dead).set n (.arr τ (v.sees xs) false)) fun m' => k n' (.ref n (.tail 0) none) m' | some _ => none)
    | _ => k n l m
  | .sl τ xs _ (some 0) =>
    (match xs with
    | [] => bif Nat.blt 0 τ.width then (match m.get n with | none => oNat (Nat.add n 1) fun n' => oMem (m.set n (.arr τ [] false)) fun m' => k n' (.ref n (.tail 0) none) m' | some _ => none) else none
    | _ => none)
  | l => k n l m
def ownLeavesK : Nat → List Leaf → Mem → (Nat → List Leaf → Mem → R) → R
  | n, [], m, k => k n [] m
  | n, l :: ls, m, k => ownLeafK n l m fun n l m => ownLeavesK n ls m fun n ls m => k n (l :: ls) m
def ownVK (n : Nat) (v : V) (m : Mem) (k : Nat → V → Mem → R) : R :=
  match v with
  | .one l => ownLeafK n l m fun n l m => k n (.one l) m
  | .agg ls => ownLeavesK n ls m fun n ls m => k n (.agg ls) m
def ownAVsK : Nat → List AV → Mem → (Nat → List AV → Mem → R) → R
  | n, [], m, k => k n [] m
  | n, v :: vs, m, k =>
    match v with
    | .val x => ownVK n x m fun n x m => ownAVsK n vs m fun n vs m => k n (.val x :: vs) m
    | v => ownAVsK n vs m fun n vs m => k n (v :: vs) m
def ownMemK : Nat → List Nat → Mem → (Nat → Mem → R) → R
  | n, [], m, k => k n m
  | n, i :: r, m, k =>
    match m.get i with
    | some (.box false ls) => ownLeavesK n ls m fun n ls m => (match m.get i with | some (.box false _) => oMem (m.set i (.box false ls)) fun m => ownMemK n r m k | _ => none)
    | _ => ownMemK n r m k
/-- All that some values and boxes show. -/
def ownAllK (vals : List AV) (m : Mem) (k : List AV → Mem → R) : R :=
  oMem m fun m => ownAVsK 200000000 vals m fun n vals m => ownMemK n (m.map (·.1)) m fun _ m => k vals m

end Go.Ev

/- The abstract evaluator, fast: code over the temporaries that are known, loops by contract. Own work. -/
set_option linter.unusedVariables false
namespace Go.Ev.X
open Go

abbrev Tmps := List (Nat × AV)

structure S where
  env : Tmps
  mem : Mem
  deriving Inhabited

def lookE : Tmps → Nat → AV
  | [], _ => .any
  | (t, v) :: r, i => bif Nat.beq t i then v else lookE r i

def evE (e : Tmps) : Env
  | .tmp t => lookE e t
  | .const v => avConst v
  | .global _ => .any
  | .func f => .one (.fn f [] [])

/-- Only these temporaries are seen. -/
def evM (l : List Nat) (e : Tmps) : Env
  | .tmp t => bif mem? t l then lookE e t else .any
  | .const v => avConst v
  | .global _ => .any
  | .func f => .one (.fn f [] [])

def putE (n : Nat) (e : Tmps) (d : Option Tmp) (v : AV) : Tmps :=
  match d with
  | some d => bif Nat.blt d n then (d, v) :: e else e
  | none => e

def putK (n : Nat) (e : Tmps) (d : Option Tmp) (v : AV) (k : Tmps → R) : R :=
  match d with
  | some d => bif Nat.blt d n then k ((d, v) :: e) else k e
  | none => k e

def placeE : List Nat → List AV → Tmps
  | t :: l, v :: vs => (t, v) :: placeE l vs
  | _, _ => []

/-! ### forcing: the value is worked out before one goes on -/
def fInt (n : Int) (k : Int → R) : R := match n with | .ofNat m => fNat m fun m => k (.ofNat m) | .negSucc m => fNat m fun m => k (.negSucc m)
def fList {α : Type} (f : α → (α → R) → R) : List α → (List α → R) → R
  | [], k => k []
  | x :: r, k => f x fun x => fList f r fun r => k (x :: r)
def fByte (b : UInt8) (k : UInt8 → R) : R := fNat b.toNat fun n => k (UInt8.ofNat n)
def fEl : (τ : Ty) → τ.El → (τ.El → R) → R
  | .bool => fun (b : Bool) k => match b with | true => k true | false => k false
  | .int _ => fun (n : Int) k => fInt n k
  | .str => fun (s : List UInt8) k => fList fByte s k
  | .fn => fun f k => k f
  | .sl e => fun xs k => fList (fEl e) xs k
  | .ar _ e => fun xs k => fList (fEl e) xs k
  | .pair a b => fun x k => fEl a x.1 fun y => fEl b x.2 fun z => k (y, z)

section
/- 'deep': numbers, bools and strings too; 'wide': and what slices and arrays hold. -/
variable (deep wide : Bool)
def fLeaf (l : Leaf) (k : Leaf → R) : R :=
  match l with
  | .undef => k .undef
  | .bool b => bif deep then (match b with | true => k (.bool true) | false => k (.bool false)) else k (.bool b)
  | .int κ n => bif deep then fInt n fun n => k (.int κ n) else k (.int κ n)
  | .str s => bif deep then fList fByte s fun s => k (.str s) else k (.str s)
  | .fn f a b => fNats a fun a => fNats b fun b => k (.fn f a b)
  | .nilfn => k .nilfn
  | .sl τ xs nl lim => bif wide then fEl (.sl τ) xs fun xs => k (.sl τ xs nl lim) else k (.sl τ xs nl lim)
  | .nilsl => k .nilsl
  | .ar n τ xs => bif wide then fEl (.sl τ) xs fun xs => k (.ar n τ xs) else k (.ar n τ xs)
  | .ref id v lim => fNat id fun id => k (.ref id v lim)
  | .ptr id off ix => fNat id fun id => fNat off fun off => k (.ptr id off ix)
  | .cptr τ x off => bif wide then fEl τ x fun x => k (.cptr τ x off) else k (.cptr τ x off)
  | .nilptr => k .nilptr
  | .map id => fNat id fun id => k (.map id)
  | .nilmap => k .nilmap
def fV (v : V) (k : V → R) : R :=
  match v with
  | .one l => fLeaf deep wide l fun l => k (.one l)
  | .agg ls => fList (fLeaf deep wide) ls fun ls => k (.agg ls)
def fAV (v : AV) (k : AV → R) : R :=
  match v with
  | .val v => fV deep wide v fun v => k (.val v)
  | .tup vs => fList (fV deep wide) vs fun vs => k (.tup vs)
  | .skip => k .skip
  | .any => k .any
def fEnts (κ τ : Ty) (es : List (κ.El × τ.El)) (k : List (κ.El × τ.El) → R) : R := fEl (.sl (.pair κ τ)) es k
def fObj (o : Obj) (k : Obj → R) : R :=
  match o with
  | .box ro ls => fList (fLeaf deep wide) ls fun ls => k (.box ro ls)
  | .arr τ xs ro => bif wide then fEl (.sl τ) xs fun xs => k (.arr τ xs ro) else k (.arr τ xs ro)
  | .raw w els => fList (fList (fLeaf deep wide)) els fun els => k (.raw w els)
  | .map ro κ τ es => bif wide then fEnts κ τ es fun es => k (.map ro κ τ es) else k (.map ro κ τ es)
  | .dead => k .dead
def fMem : Mem → (Mem → R) → R
  | [], k => k []
  | (i, o) :: r, k => fNat i fun i => fObj deep wide o fun o => fMem r fun r => k ((i, o) :: r)
/-- The objects of some names widely, the others as they are. -/
def fMemT (ids : List Nat) : Mem → (Mem → R) → R
  | [], k => k []
  | (i, o) :: r, k => fNat i fun i => fObj deep (wide && mem? i ids) o fun o => fMemT ids r fun r => k ((i, o) :: r)
end

/-! ### running -/
structure XK where
  normal : S → R
  exit : Nat → List AV → Mem → R
  ret : List AV → Mem → R

structure RC extends Cfg where
  /-- How many temporaries there are. -/
  nt : Nat
  /-- Who is live behind a block; at a loop's head. -/
  lx : Nat → List Nat
  ll : Nat → List Nat
  loops : Nat → Option (List AV → Mem → XK → R)
  res : List ResultVar
  fuel : Nat
  deep : Bool
  /-- Whom the operations of a drawn region wait for, worked out before. -/
  bef : Nat → Option (List Nat)
  /-- At which loops' heads all slices become arrays of their own. -/
  own : Nat → Bool

def headK (deep : Bool) (vals : List AV) (m : Mem) (k : List AV → Mem → R) : R :=
  fNats (addMiss (reach m reachFuel (given m ++ avsIds vals) []) (given m)) fun ids =>
  fList (fAV deep false) (renAVs (fun i => (idx? i ids 0).map (nameOf ids)) vals) fun vals' =>
  fMem deep false (pickMem m (fun i => (idx? i ids 0).map (nameOf ids)) (nameOf ids) ids 0) fun m' => k vals' m'

def hdK (C : RC) (key : Nat) (vals : List AV) (m : Mem) (k : List AV → Mem → R) : R :=
  bif C.own key then ownAllK vals m fun vals m => headK C.deep vals m k else headK C.deep vals m k
/-- The key of the results. -/
def retKey : Nat := 1000000

def lookAll (e : Tmps) : List Nat → List AV
  | [] => []
  | t :: l => lookE e t :: lookAll e l

def branchE (c : Operand) (e : Tmps) (m : Mem) (yes no : S → R) : R :=
  match c with
  | .tmp t => boolK (lookE e t) fun b => cond b (yes { env := (t, .one (.bool true)) :: e, mem := m }) (no { env := (t, .one (.bool false)) :: e, mem := m })
  | c => boolK (evE e c) fun b => cond b (yes { env := e, mem := m }) (no { env := e, mem := m })
/-- The state is taken apart first: what is kept of it are its parts. -/
noncomputable def branchK (c : Operand) (s : S) (yes no : S → R) : R := S.rec (motive := fun _ => R) (fun e m => branchE c e m yes no) s

def guardK (ops : List Oper) (o : Oper) (e : Tmps) (yes no : Tmps → R) : R :=
  match o.guard with
  | none => yes e
  | some (j, want) =>
    match (ops[j]?).bind (·.dst) with
    | some t =>
      match lookE e t with
      | .val (.one (.bool b)) =>
        cond b (cond want (yes ((t, .one (.bool true)) :: e)) (no ((t, .one (.bool true)) :: e)))
          (cond want (no ((t, .one (.bool false)) :: e)) (yes ((t, .one (.bool false)) :: e)))
      | .skip => no e
      | _ => none
    | none => none

def clsX (C : Cfg) : Op → Cls
  | .move _ | .assign _ | .pick .. | .unOp .. | .field .. | .fieldAddr .. | .extract .. | .nilCheck _ | .makeFunc .. | .index .. => .silent
  | .load .. | .lookup .. | .indexAddr .. | .slice .. | .binOp .. => .reader
  | .convert s t _ =>
    match (C.T s).und, (C.T t).und with
    | some .string, some (.slice _) => .writer
    | _, _ => .reader
  | .call c =>
    match c.callee with
    | .builtin .len | .builtin .cap | .builtin .min | .builtin .max => .reader
    | .value (.func f) => match C.pol f with
      | .pure => bif C.sr f then .writer else .reader
      | .read _ => .asker
      | _ => .writer
    | _ => .writer
  | _ => .writer

/-- Does it make new lists? -/
def wideOp (C : Cfg) (o : Oper) : Bool :=
  match o.op with
  | .slice .. => true
  | op => match clsX C op with | .writer => true | _ => false

/-- Which objects may be new or changed. -/
def touched (o : Oper) (ρ : Env) (v : AV) (m : Mem) : List Nat :=
  match o.op with
  | .store _ a _ => (ρ a).ids
  | .call c => match c.callee with
    | .builtin _ => v.ids
    | _ => m.map (·.1)
  | .mapUpdate _ x _ _ => (ρ x).ids
  | .insert _ x _ _ => (ρ x).ids
  | _ => v.ids

def fMemIf (C : RC) (o : Oper) (ρ : Env) (v : AV) (m : Mem) (k : Mem → R) : R :=
  match clsX C.toCfg o.op with
  | .writer => fNats (touched o ρ v m) fun ids => fMemT C.deep C.deep ids m k
  | _ => k m

noncomputable def opsE (C : RC) (ops : List Oper) (l : List Oper) : Tmps → Mem → (S → R) → R :=
  List.rec (motive := fun _ => Tmps → Mem → (S → R) → R) (fun e m k => k { env := e, mem := m })
    (fun o _ ih e m k => guardK ops o e
      (fun e => aOp C.toCfg o (evE e) m fun v m => fAV C.deep (C.deep && wideOp C.toCfg o) v fun v => fMemIf C o (evE e) v m fun m => putK C.nt e o.dst v fun e => ih e m k)
      (fun e => putK C.nt e o.dst .skip fun e => ih e m k)) l

theorem opsE_nil (C : RC) (ops : List Oper) (e : Tmps) (m : Mem) (k : S → R) : opsE C ops [] e m k = k { env := e, mem := m } := rfl
theorem opsE_cons (C : RC) (ops : List Oper) (o : Oper) (r : List Oper) (e : Tmps) (m : Mem) (k : S → R) : opsE C ops (o :: r) e m k =
    guardK ops o e
      (fun e => aOp C.toCfg o (evE e) m fun v m => fAV C.deep (C.deep && wideOp C.toCfg o) v fun v => fMemIf C o (evE e) v m fun m => putK C.nt e o.dst v fun e => opsE C ops r e m k)
      (fun e => putK C.nt e o.dst .skip fun e => opsE C ops r e m k) := rfl

/-! ### regions whose order is drawn -/
/-- An answer, taken apart. -/
noncomputable def gotE (x : R) (k : AV → Mem → R) : R := Option.rec (motive := fun _ => R) none (fun p => Prod.rec (motive := fun _ => R) k p) x
theorem gotE_some {x : R} {k : AV → Mem → R} {r : AV × Mem} : gotE x k = some r ↔ ∃ v m, x = some (v, m) ∧ k v m = some r := by
  cases x with
  | none => simp [gotE]
  | some p => obtain ⟨v, m⟩ := p; exact ⟨fun h => ⟨v, m, rfl, h⟩, fun ⟨_, _, e, h⟩ => by cases e; exact h⟩

noncomputable def localE (C : Cfg) (o : Oper) (e : Tmps) (m : Mem) (k : AV → Mem → List Nat → List Nat → R) : R :=
  fNats (reach m reachFuel (avsIds (lookAll e (tmpsOf o))) []) fun ids =>
  bif allMem ids (avsIds (lookAll e (tmpsOf o))) && closedFrom m ids ids then
    gotE (aOp C o (fun x => (evM (tmpsOf o) e x).ren fun i => idx? i ids 0) (pickMem m (fun i => idx? i ids 0) id ids 0) outK) fun r m' =>
      comeBackX m m' (o.dst.getD 0) ids r fun new v m2 => k v m2 ids (ids ++ newNames (o.dst.getD 0) new.length)
  else none

def pureCallE (C : Cfg) (ρ : Env) (m : Mem) (c : Call) (f : FuncId) : R :=
  opt (frzAll m (c.args.toList.map ρ)) fun args' =>
  C.H f args' [] fun r m' => opt (frz m' r) fun r' => bif r'.anySl then none else some (r', [])

def readE (C : Cfg) (o : Oper) (ρ : Env) (m : Mem) : R :=
  match o.op with
  | .call c => match c.callee with
    | .value (.func f) => pureCallE C ρ m c f
    | _ => aOp C o ρ m outK
  | _ => aOp C o ρ m outK

noncomputable def stepE (C : Cfg) (o : Oper) (e : Tmps) (m : Mem) (k : AV → Mem → List Nat → List Nat → R) : R :=
  match clsX C o.op with
  | .writer => localE C o e m k
  | .reader => gotE (readE C o (evM (tmpsOf o) e) m) fun v _ => k v m (avsIds (lookAll e (tmpsOf o))) []
  | .silent => gotE (aOp C o (evM (tmpsOf o) e) m outK) fun v _ => k v m [] []
  | .asker =>
    fNats (reach m reachFuel (avsIds (lookAll e (tmpsOf o))) []) fun ids =>
    bif allMem ids (avsIds (lookAll e (tmpsOf o))) && closedFrom m ids ids then
      gotE (aOp C o (evM (tmpsOf o) e) m outK) fun v _ => k v m ids []
    else none

def consF (i : Nat) (rd wr : List Nat) (acc : List (Nat × Foot)) (k : List (Nat × Foot) → R) : R :=
  match rd with
  | [] => match wr with
    | [] => k acc
    | w :: wr => k ((i, { rd := [], wr := w :: wr }) :: acc)
  | r :: rd => k ((i, { rd := r :: rd, wr := wr }) :: acc)

abbrev RunT := Nat → List (Nat × Foot) → Tmps → Mem → (List (Nat × Foot) → Tmps → Mem → R) → R
noncomputable def runE (C : RC) (ops : List Oper) (l : List Oper) : RunT :=
  List.rec (motive := fun _ => RunT) (fun _ acc e m k => k acc e m)
    (fun o _ ih i acc e m k => guardK ops o e
      (fun e => stepE C.toCfg o e m fun v m rd wr => fAV C.deep (C.deep && wideOp C.toCfg o) v fun v => fMemIf C o (evE e) v m fun m =>
        fNats rd fun rd => fNats wr fun wr => consF i rd wr acc fun acc => putK C.nt e o.dst v fun e => ih (Nat.add i 1) acc e m k)
      (fun e => putK C.nt e o.dst .skip fun e => ih (Nat.add i 1) acc e m k)) l

theorem runE_nil (C : RC) (ops : List Oper) (i : Nat) (acc : List (Nat × Foot)) (e : Tmps) (m : Mem) (k : List (Nat × Foot) → Tmps → Mem → R) :
    runE C ops [] i acc e m k = k acc e m := rfl
theorem runE_cons (C : RC) (ops : List Oper) (o : Oper) (r : List Oper) (i : Nat) (acc : List (Nat × Foot)) (e : Tmps) (m : Mem) (k : List (Nat × Foot) → Tmps → Mem → R) :
    runE C ops (o :: r) i acc e m k = guardK ops o e
      (fun e => stepE C.toCfg o e m fun v m rd wr => fAV C.deep (C.deep && wideOp C.toCfg o) v fun v => fMemIf C o (evE e) v m fun m =>
        fNats rd fun rd => fNats wr fun wr => consF i rd wr acc fun acc => putK C.nt e o.dst v fun e => runE C ops r (Nat.add i 1) acc e m k)
      (fun e => putK C.nt e o.dst .skip fun e => runE C ops r (Nat.add i 1) acc e m k) := rfl

def revF : List (Nat × Foot) → List (Nat × Foot) → List (Nat × Foot)
  | [], acc => acc
  | p :: r, acc => revF r (p :: acc)

noncomputable def drawK (C : RC) (ops : Array Oper) (bef : List Nat) (s : S) (k : S → R) : R :=
  S.rec (motive := fun _ => R) (fun e m => runE C ops.toList ops.toList 0 [] e m fun acc e m => gd (drawOk bef (revF acc [])) (fMem C.deep false (norm m) fun m => k { env := e, mem := m })) s

noncomputable def drawE (C : RC) (id : Nat) (ops : Array Oper) (s : S) (k : S → R) : R :=
  match C.bef id with
  | some bef => drawK C ops bef s k
  | none =>
    fNats (befL ops.toList []) fun bef =>
    bif staticOk ops bef then drawK C ops bef s k else none

/-! ### results -/
def resE (C : RC) (s : S) : ResultVar → Option AV
  | .tmp t => match lookE s.env t with
    | .val v => some (.val v)
    | _ => none
  | .cell a t => match lookE s.env a with
    | .val (.one (.ptr id off none)) =>
      match s.mem.get id with
      | some (.box _ ls) => ((cutW ls off (C.T t).size).bind (mkV C.T t)).map .val
      | _ => none
    | _ => none
def resAll (C : RC) (s : S) : List ResultVar → Option (List AV)
  | [] => some []
  | r :: rs => match resE C s r, resAll C s rs with | some v, some vs => some (v :: vs) | _, _ => none
def retE (C : RC) (s : S) (k : List AV → Mem → R) : R :=
  match resAll C s C.res with
  | some vs => hdK C retKey vs s.mem k
  | none => none

noncomputable def rounds (body : List AV → Mem → XK → R) (head : S → (List AV → Mem → R) → R) (k : XK) (n : Nat) : List AV → Mem → R :=
  Nat.rec (motive := fun _ => List AV → Mem → R) (fun _ _ => none) (fun _ ih v m => body v m { k with normal := fun s => head s fun v m => ih v m }) n

def loopKey (b : Code) : Nat := (firstRegion b).getD 0

/-- A loop by its rounds, where no contract is given. -/
noncomputable def loopE (C : RC) (key : Nat) (b : S → XK → R) (s : S) (k : XK) : R :=
  hdK C key (lookAll s.env (C.ll key)) s.mem fun v m =>
  match C.loops key with
  | some p => p v m k
  | none => rounds (fun v m k => b { env := placeE (C.ll key) v, mem := m } k) (fun s => hdK C key (lookAll s.env (C.ll key)) s.mem) k C.fuel v m

def exitK (C : RC) (id : Nat) (k : XK) : XK :=
  { k with exit := fun i vals m => bif Nat.beq i id then k.normal { env := placeE (C.lx id) vals, mem := m } else k.exit i vals m }

noncomputable def run (C : RC) (c : Code) : S → XK → R :=
  Code.rec (motive := fun _ => S → XK → R)
    (fun s k => k.normal s)
    (fun id ops draw s k => S.rec (motive := fun _ => R) (fun e m => bif draw then drawE C id ops { env := e, mem := m } k.normal else opsE C ops.toList ops.toList e m k.normal) s)
    (fun _ _ ra rb s k => ra s { k with normal := fun s' => rb s' k })
    (fun c _ _ ra rb s k => branchK c s (fun s => ra s k) (fun s => rb s k))
    (fun id _ rb s k => rb s (exitK C id k))
    (fun b rb s k => loopE C (loopKey b) rb s k)
    (fun _ _ _ _ _ _ _ _ => none)
    (fun id s k => headK C.deep (lookAll s.env (C.lx id)) s.mem fun v m => k.exit id v m)
    (fun _ rb s k => rb s k)
    (fun _ s k => k.normal s)
    (fun _ _ _ => none)
    (fun s k => retE C s k.ret)
    (fun _ _ _ => none) c

section
variable (C : RC) (s : S) (k : XK)
theorem run_skip : run C .skip s k = k.normal s := rfl
theorem run_label (l) : run C (.label l) s k = k.normal s := rfl
theorem run_region (id ops draw) : run C (.region id ops draw) s k = bif draw then drawE C id ops s k.normal else opsE C ops.toList ops.toList s.env s.mem k.normal := rfl
theorem run_seq (a b) : run C (.seq a b) s k = run C a s { k with normal := fun s' => run C b s' k } := rfl
theorem run_cond (c a b) : run C (.cond c a b) s k = branchK c s (fun s => run C a s k) (fun s => run C b s k) := rfl
theorem run_block (id b) : run C (.block id b) s k = run C b s { k with exit := fun i vals m => bif Nat.beq i id then k.normal { env := placeE (C.lx id) vals, mem := m } else k.exit i vals m } := rfl
theorem run_loop (b) : run C (.loop b) s k = hdK C (loopKey b) (lookAll s.env (C.ll (loopKey b))) s.mem fun v m =>
    match C.loops (loopKey b) with
    | some p => p v m k
    | none => rounds (fun v m k => run C b { env := placeE (C.ll (loopKey b)) v, mem := m } k) (fun s => hdK C (loopKey b) (lookAll s.env (C.ll (loopKey b))) s.mem) k C.fuel v m := rfl
theorem run_exit (id) : run C (.exit id) s k = headK C.deep (lookAll s.env (C.lx id)) s.mem fun v m => k.exit id v m := rfl
theorem run_ret : run C .ret s k = retE C s k.ret := rfl
theorem run_scope (b) : run C (.scope b) s k = run C b s k := rfl
theorem run_goto (l) : run C (.goto l) s k = none := rfl
theorem run_rangeFunc (a b c d) : run C (.rangeFunc a b c d) s k = none := rfl
theorem run_refuse (r) : run C (.refuse r) s k = none := rfl
end

def argE : Nat → List AV → Tmps
  | _, [] => []
  | i, v :: vs => (i, v) :: argE (i + 1) vs

def toVs : List AV → Option (List V)
  | [] => some []
  | .val v :: r => match toVs r with | some vs => some (v :: vs) | none => none
  | _ => none

def retK (k : AK) (vals : List AV) (m : Mem) : R :=
  match toVs vals with
  | some [v] => k (.val v) m
  | some vs => k (.tup vs) m
  | none => none

def skipE : Nat → Nat → Tmps
  | _, 0 => []
  | i, n + 1 => (i, .skip) :: skipE (i + 1) n

/-- A function's body. -/
noncomputable def body (C : RC) (c : Code) (args : List AV) (m : Mem) (k : AK) : R :=
  gd (lowNames m && Nat.ble args.length C.nt)
    (run C c { env := argE 0 args, mem := m } { normal := fun s => retE C s (retK k), exit := fun _ _ _ => none, ret := retK k })

end Go.Ev.X

/- The fast evaluator is sound: its states are states of the elder one. Own work. -/
set_option linter.unusedSimpArgs false
set_option linter.unusedVariables false
namespace Go.Ev.X
open Go

/-! ### forcing changes nothing -/
theorem fInt_eq (n : Int) (k : Int → R) : fInt n k = k n := by cases n <;> simp only [fInt, fNat_eq]
theorem fList_eq {α : Type} {f : α → (α → R) → R} (h : ∀ x k, f x k = k x) : ∀ (l : List α) (k : List α → R), fList f l k = k l
  | [], k => rfl
  | x :: r, k => by simp only [fList, h, fList_eq h r]
theorem fByte_eq (b : UInt8) (k : UInt8 → R) : fByte b k = k b := by simp only [fByte, fNat_eq, UInt8.ofNat_toNat]
theorem fEl_eq : ∀ (τ : Ty) (x : τ.El) (k : τ.El → R), fEl τ x k = k x
  | .bool, x, k => by cases x <;> rfl
  | .int _, x, k => fInt_eq x k
  | .str, x, k => fList_eq fByte_eq x k
  | .fn, x, k => rfl
  | .sl e, x, k => fList_eq (fEl_eq e) x k
  | .ar _ e, x, k => fList_eq (fEl_eq e) x k
  | .pair a b, x, k => by simp only [fEl, fEl_eq a, fEl_eq b]
theorem fLeaf_eq (deep wide : Bool) (l : Leaf) (k : Leaf → R) : fLeaf deep wide l k = k l := by
  cases deep <;> cases wide <;> cases l <;> simp only [fLeaf, cond_true, cond_false, fInt_eq, fNat_eq, fNats_eq, fEl_eq, fList_eq fByte_eq]
  all_goals (rename_i b; cases b <;> rfl)
theorem fV_eq (deep wide : Bool) (v : V) (k : V → R) : fV deep wide v k = k v := by
  cases v <;> simp only [fV, fLeaf_eq, fList_eq (fLeaf_eq deep wide)]
theorem fAV_eq (deep wide : Bool) (v : AV) (k : AV → R) : fAV deep wide v k = k v := by
  cases v <;> simp only [fAV, fV_eq, fList_eq (fV_eq deep wide)]
theorem fObj_eq (deep wide : Bool) (o : Obj) (k : Obj → R) : fObj deep wide o k = k o := by
  cases wide <;> cases o <;> simp only [fObj, cond_true, cond_false, fList_eq (fLeaf_eq _ _), fList_eq (fList_eq (fLeaf_eq _ _)), fEl_eq, fEnts]
theorem fMem_eq (deep wide : Bool) : ∀ (m : Mem) (k : Mem → R), fMem deep wide m k = k m
  | [], k => rfl
  | (i, o) :: r, k => by simp only [fMem, fNat_eq, fObj_eq, fMem_eq deep wide r]
theorem fMemT_eq (deep wide : Bool) (ids : List Nat) : ∀ (m : Mem) (k : Mem → R), fMemT deep wide ids m k = k m
  | [], k => rfl
  | (i, o) :: r, k => by simp only [fMemT, fNat_eq, fObj_eq, fMemT_eq deep wide ids r]
theorem fMemIf_eq (C : RC) (o : Oper) (ρ : Env) (v : AV) (m : Mem) (k : Mem → R) : fMemIf C o ρ v m k = k m := by
  unfold fMemIf; split
  · rw [fNats_eq, fMemT_eq]
  · rfl

theorem putK_eq (n : Nat) (e : Tmps) (d : Option Tmp) (v : AV) (k : Tmps → R) : putK n e d v k = k (putE n e d v) := by
  unfold putK putE
  cases d with
  | none => rfl
  | some d => simp only; cases Nat.blt d n <;> rfl

theorem headK_eq (deep : Bool) (vals : List AV) (m : Mem) (k : List AV → Mem → R) :
    headK deep vals m k = k (renAVs (fun i => (idx? i (addMiss (reach m reachFuel (given m ++ avsIds vals) []) (given m)) 0).map (nameOf (addMiss (reach m reachFuel (given m ++ avsIds vals) []) (given m)))) vals)
      (pickMem m (fun i => (idx? i (addMiss (reach m reachFuel (given m ++ avsIds vals) []) (given m)) 0).map (nameOf (addMiss (reach m reachFuel (given m ++ avsIds vals) []) (given m)))) (nameOf (addMiss (reach m reachFuel (given m ++ avsIds vals) []) (given m))) (addMiss (reach m reachFuel (given m ++ avsIds vals) []) (given m)) 0) := by
  simp only [headK, fNats_eq, fList_eq (fAV_eq deep false), fMem_eq]

/-! ### states -/
def stOf (n : Nat) (s : S) : St := { tmps := (List.range n).map (lookE s.env), mem := s.mem }
def Low (n : Nat) (e : Tmps) : Prop := ∀ t, n ≤ t → lookE e t = .any

theorem stOf_get {n : Nat} {s : S} (h : Low n s.env) (t : Nat) : (stOf n s).tmps.getD t .any = lookE s.env t := by
  unfold stOf
  simp only [List.getD_eq_getElem?_getD, List.getElem?_map]
  rcases Nat.lt_or_ge t n with hlt | hge
  · simp [List.getElem?_range hlt]
  · rw [h t hge]
    simp [hge]

theorem stOf_ev {n : Nat} {s : S} (h : Low n s.env) : ev (stOf n s) = evE s.env := by
  funext x
  cases x with
  | tmp t => exact stOf_get h t
  | _ => rfl

theorem lookE_cons (t : Nat) (v : AV) (e : Tmps) (i : Nat) : lookE ((t, v) :: e) i = if t = i then v else lookE e i := by
  simp only [lookE, nbeq]
  by_cases h : t = i <;> simp [h]

theorem lookE_same {t : Nat} {v : AV} {e : Tmps} (h : lookE e t = v) : lookE ((t, v) :: e) = lookE e := by
  funext i
  rw [lookE_cons]
  by_cases hi : t = i
  · subst hi; simp [h]
  · simp [hi]

theorem lookE_putE (n : Nat) (e : Tmps) (d : Option Tmp) (v : AV) (i : Nat) : lookE (putE n e d v) i = if d = some i ∧ i < n then v else lookE e i := by
  cases d with
  | none => simp [putE]
  | some d =>
    simp only [putE]
    cases hb : Nat.blt d n with
    | true =>
      have hd := blt_iff.mp hb
      simp only [cond_true, lookE_cons]
      by_cases h : d = i
      · subst h; simp [hd]
      · simp [h]
    | false =>
      have hd : ¬ d < n := fun h => by rw [blt_iff.mpr h] at hb; cases hb
      simp only [cond_false]
      by_cases h : d = i
      · subst h; simp [hd]
      · simp [h]

theorem Low.put {n : Nat} {e : Tmps} (h : Low n e) (d : Option Tmp) (v : AV) : Low n (putE n e d v) := fun t ht => by
  rw [lookE_putE, if_neg (by omega)]
  exact h t ht

theorem stOf_put (n : Nat) (e : Tmps) (m0 m : Mem) (d : Option Tmp) (v : AV) : stOf n { env := putE n e d v, mem := m } = put (stOf n { env := e, mem := m0 }) d v m := by
  have hm : (stOf n { env := putE n e d v, mem := m }).mem = (put (stOf n { env := e, mem := m0 }) d v m).mem := by rw [put_mem]; rfl
  have ht : (stOf n { env := putE n e d v, mem := m }).tmps = (put (stOf n { env := e, mem := m0 }) d v m).tmps := by
    rw [put_tmps]
    unfold stOf
    apply List.ext_getElem?
    intro i
    cases d with
    | none => simp [putE]
    | some d =>
      simp only [List.getElem?_map, List.getElem?_set, List.length_map, List.length_range]
      rcases Nat.lt_or_ge i n with hlt | hge
      · rw [List.getElem?_range hlt]
        simp only [Option.map_some, lookE_putE]
        by_cases h : d = i
        · subst h; simp [hlt]
        · have : ¬ (some d = some i ∧ i < n) := by rintro ⟨h1, _⟩; exact h (Option.some.inj h1)
          simp [h]
      · rw [List.getElem?_eq_none (by simpa using hge)]
        by_cases h : d = i
        · subst h; simp [Nat.not_lt.mpr hge]
        · simp [h]
  have key : ∀ x y : St, x.tmps = y.tmps → x.mem = y.mem → x = y := by
    rintro ⟨_, _⟩ ⟨_, _⟩ rfl rfl; rfl
  exact key _ _ ht hm

/-- The base evaluator behind a set-up. -/
def base (P : Program) (C : RC) : Ev.Cfg := { P := P, live := fun _ _ => [], pol := C.pol, H0 := C.H }

structure Fits (P : Program) (C : RC) : Prop where
  T : C.T = tiOf P
  sr : C.sr = slRes P
  rd : ∀ f q, C.pol f = .read q → C.H f = liftQ q

theorem Fits.H {P : Program} {C : RC} (h : Fits P C) (f : FuncId) : (base P C).H f = C.H f := by
  unfold Ev.Cfg.H
  split
  · rename_i q e
    exact (h.rd f q e).symm
  · rfl

theorem Fits.calls {P : Program} {C : RC} (h : Fits P C) (hC : ∀ f, CallOK P f (C.H f)) : ∀ f, CallOK (base P C).P f ((base P C).H f) := fun f => by
  rw [h.H]
  exact hC f

theorem Fits.of {P : Program} {C : RC} (h : Fits P C) : C.toCfg = Cfg.of (base P C) := by
  have hH : (base P C).H = C.H := funext h.H
  unfold Cfg.of
  rw [hH]
  obtain ⟨⟨T, pol, sr, H⟩, _, _, _, _, _, _, _, _⟩ := C
  obtain ⟨h1, h2, _⟩ := h
  simp only at h1 h2
  subst h1; subst h2
  rfl

section
variable {P : Program} {C : RC}

theorem aOp_base (hF : Fits P C) {o : Oper} {s : S} (hl : Low C.nt s.env) (k : AV → Mem → R) : X.aOp C.toCfg o (evE s.env) s.mem k = Ev.aOp (base P C) o (stOf C.nt s) k := by
  rw [hF.of, ← X_aOp, stOf_ev hl]
  rfl

/-- A guard, as the elder evaluator sees it. -/
theorem guardK_spec {ops : Array Oper} {o : Oper} {e : Tmps} {m : Mem} {n : Nat} {yes no : Tmps → R} {r : AV × Mem} (hl : Low n e) (h : guardK ops.toList o e yes no = some r) :
    ∃ e', lookE e' = lookE e ∧ ((wantedB ops o (stOf n ⟨e, m⟩).tmps = some true ∧ yes e' = some r) ∨ (wantedB ops o (stOf n ⟨e, m⟩).tmps = some false ∧ no e' = some r)) := by
  unfold guardK at h
  unfold wantedB
  cases hg : o.guard with
  | none => simp only [hg] at h ⊢; exact ⟨e, rfl, .inl ⟨trivial, h⟩⟩
  | some p =>
    obtain ⟨j, want⟩ := p
    simp only [hg] at h ⊢
    rw [Array.getElem?_toList] at h
    cases hd : (ops[j]?).bind (·.dst) with
    | none => simp [hd] at h
    | some t =>
      simp only [hd] at h ⊢
      rw [show (stOf n ⟨e, m⟩).tmps.getD t AV.undef = lookE e t from stOf_get (s := ⟨e, m⟩) hl t]
      split at h
      · rename_i b hb
        rw [hb]
        cases b with
        | true =>
          simp only [cond_true] at h
          refine ⟨(t, .one (.bool true)) :: e, lookE_same hb, ?_⟩
          cases want with
          | true => exact .inl ⟨rfl, h⟩
          | false => exact .inr ⟨rfl, h⟩
        | false =>
          simp only [cond_false] at h
          refine ⟨(t, .one (.bool false)) :: e, lookE_same hb, ?_⟩
          cases want with
          | true => exact .inr ⟨rfl, h⟩
          | false => exact .inl ⟨rfl, h⟩
      · rename_i hb
        rw [hb]
        exact ⟨e, rfl, .inr ⟨rfl, h⟩⟩
      · simp at h

theorem stOf_look {n : Nat} {s s' : S} (h : lookE s'.env = lookE s.env) (hm : s'.mem = s.mem) : stOf n s' = stOf n s := by unfold stOf; rw [h, hm]
theorem Low.look {n : Nat} {e e' : Tmps} (h : Low n e) (he : lookE e' = lookE e) : Low n e' := fun t ht => by rw [he]; exact h t ht

theorem lookAll_eq (e : Tmps) : ∀ (l : List Nat), lookAll e l = l.map (lookE e)
  | [] => rfl
  | t :: l => by simp only [lookAll, lookAll_eq e l, List.map_cons]

theorem seen_eq {n : Nat} {s : S} (hl : Low n s.env) (o : Oper) : seen o (stOf n s).tmps = lookAll s.env (tmpsOf o) := by
  rw [lookAll_eq]
  unfold seen
  exact List.map_congr_left fun t _ => stOf_get hl t

theorem keep_get {live : List Nat} : ∀ {t : List AV} {k j : Nat}, (keep live k t).getD j .any = if k + j ∈ live then t.getD j .any else .any
  | [], k, j => by simp [keep]
  | x :: t, k, 0 => by
    simp only [keep, List.getD_cons_zero]
    cases hm : mem? k live with
    | true => simp [mem?_iff.mp hm]
    | false =>
      have : k ∉ live := fun h => by rw [mem?_iff.mpr h] at hm; cases hm
      simp [this]
  | x :: t, k, j + 1 => by
    simp only [keep, List.getD_cons_succ, keep_get, show k + 1 + j = k + (j + 1) from by omega]

theorem keep_ev {n : Nat} {s : S} (hl : Low n s.env) (l : List Nat) (m : Mem) : ev { tmps := keep l 0 (stOf n s).tmps, mem := m } = evM l s.env := by
  funext x
  cases x with
  | tmp t =>
    show (keep l 0 (stOf n s).tmps).getD t .any = _
    rw [keep_get, stOf_get hl]
    simp only [evM, Nat.zero_add]
    cases hm : mem? t l with
    | true => simp [mem?_iff.mp hm]
    | false =>
      have : t ∉ l := fun h => by rw [mem?_iff.mpr h] at hm; cases hm
      simp [this]
  | _ => rfl

theorem renAVs_getD (ρ : Nat → Option Nat) : ∀ (t : List AV) (j : Nat), (renAVs ρ t).getD j .any = (t.getD j .any).ren ρ
  | [], j => by simp [renAVs, AV.ren]
  | x :: t, 0 => by simp [renAVs]
  | x :: t, j + 1 => by simp only [renAVs, List.getD_cons_succ, renAVs_getD ρ t j]

theorem const_ren (ρ : Nat → Option Nat) (v : Value) : (avConst v).ren ρ = avConst v := by
  have key : ∀ {v : Value} {l : Leaf}, leafConst v = some l → l.ren ρ = l := by
    intro v l h
    unfold leafConst at h
    split at h
    all_goals (first | (cases h; rfl) | (exact absurd h (by simp)) | (obtain ⟨rfl, _⟩ := strConst_some h; rfl) | skip)
    split at h
    · cases h; rfl
    · cases h
  have key2 : ∀ {vs : List Value} {ls : List Leaf}, constLeaves vs = some ls → renLeaves ρ ls = ls := by
    intro vs
    induction vs with
    | nil => intro ls h; simp only [constLeaves, Option.some.injEq] at h; subst h; rfl
    | cons v vs ih =>
      intro ls h
      simp only [constLeaves] at h
      split at h
      · rename_i l ls' h1 h2
        simp only [Option.some.injEq] at h
        subst h
        simp [renLeaves, key h1, ih h2]
      · cases h
  unfold avConst
  split
  · split
    · rename_i h1; simp [AV.ren, V.ren, key2 h1]
    · rfl
  · split <;> rfl
  · split
    · rename_i h1; simp [AV.ren, V.ren, key h1]
    · rfl

theorem keep_ren_ev {n : Nat} {s : S} (hl : Low n s.env) (l : List Nat) (m : Mem) (ρ : Nat → Option Nat) : ev { tmps := renAVs ρ (keep l 0 (stOf n s).tmps), mem := m } = fun x => (evM l s.env x).ren ρ := by
  funext x
  cases x with
  | tmp t =>
    show (renAVs ρ (keep l 0 (stOf n s).tmps)).getD t .any = _
    rw [renAVs_getD]
    congr 1
    exact congrFun (keep_ev hl l m) (.tmp t)
  | const v => exact (const_ren ρ v).symm
  | global _ => rfl
  | func f => rfl

theorem clsX_eq (hF : Fits P C) (op : Op) : clsX C.toCfg op = clsOf (base P C) op := by
  unfold clsX clsOf
  rw [hF.of]
  rfl

/-- A step of a drawn region, as the elder evaluator does it. -/
theorem stepE_spec (hF : Fits P C) {ops : Array Oper} {o : Oper} {s : S} {k : AV → Mem → List Nat → List Nat → R} {r : AV × Mem} (hl : Low C.nt s.env) (hw : wantedB ops o (stOf C.nt s).tmps = some true) (h : stepE C.toCfg o s.env s.mem k = some r) :
    ∃ x, aStep (base P C) ops o (stOf C.nt s) = some x ∧ k x.v x.mem x.foot.rd x.foot.wr = some r := by
  unfold stepE at h
  unfold aStep
  rw [hw]
  simp only
  rw [clsX_eq hF] at h
  have hmem : (stOf C.nt s).mem = s.mem := rfl
  split at h
  · rename_i hc
    rw [hc]
    simp only
    unfold localE at h
    unfold aLocal
    simp only [fNats_eq] at h
    simp only [hmem]
    rw [seen_eq hl]
    cases hb : allMem (reach s.mem reachFuel (avsIds (lookAll s.env (tmpsOf o))) []) (avsIds (lookAll s.env (tmpsOf o))) && closedFrom s.mem (reach s.mem reachFuel (avsIds (lookAll s.env (tmpsOf o))) []) (reach s.mem reachFuel (avsIds (lookAll s.env (tmpsOf o))) []) with
    | false => simp [hb] at h
    | true =>
      simp only [hb, cond_true] at h ⊢
      generalize reach s.mem reachFuel (avsIds (lookAll s.env (tmpsOf o))) [] = ids at *
      have e : ∀ k', X.aOp C.toCfg o (fun x => (evM (tmpsOf o) s.env x).ren fun i => idx? i ids 0) (pickMem s.mem (fun i => idx? i ids 0) id ids 0) k' =
          Ev.aOp (base P C) o { tmps := renAVs (fun i => idx? i ids 0) (keep (tmpsOf o) 0 (stOf C.nt s).tmps), mem := pickMem s.mem (fun i => idx? i ids 0) id ids 0 } k' := fun k' => by
        rw [hF.of, ← X_aOp, keep_ren_ev hl]
      rw [e] at h
      obtain ⟨rr, mi, hr, h⟩ := gotE_some.mp h
      simp only [hr]
      unfold comeBackX at h
      unfold comeBack
      simp only [fNats_eq] at h ⊢
      obtain ⟨hf, h⟩ := gd_some.mp h
      simp only [hf, gd, cond_true, outK]
      exact ⟨_, rfl, h⟩
  · rename_i hc
    rw [hc]
    simp only
    have e : readE C.toCfg o (evM (tmpsOf o) s.env) s.mem = aRead (base P C) o { tmps := keep (tmpsOf o) 0 (stOf C.nt s).tmps, mem := (stOf C.nt s).mem } := by
      have e1 : ∀ k', X.aOp C.toCfg o (evM (tmpsOf o) s.env) s.mem k' = Ev.aOp (base P C) o { tmps := keep (tmpsOf o) 0 (stOf C.nt s).tmps, mem := s.mem } k' := fun k' => by
        rw [hF.of, ← X_aOp, keep_ev hl]
      have e2 : ∀ c f, pureCallE C.toCfg (evM (tmpsOf o) s.env) s.mem c f = pureCall (base P C) { tmps := keep (tmpsOf o) 0 (stOf C.nt s).tmps, mem := s.mem } c f := fun c f => by
        unfold pureCallE pureCall
        rw [keep_ev hl, hF.H]
      unfold readE aRead
      rw [hmem]
      simp only [e1, e2]
      generalize Ev.aOp (base P C) o { tmps := keep (tmpsOf o) 0 (stOf C.nt s).tmps, mem := s.mem } outK = Z
      generalize o.op = op
      cases op <;> rfl
    rw [e] at h
    obtain ⟨v, mx, hr, h⟩ := gotE_some.mp h
    simp only [hr]
    rw [seen_eq hl]
    exact ⟨_, rfl, h⟩
  · rename_i hc
    rw [hc]
    simp only
    have e1 : ∀ k', X.aOp C.toCfg o (evM (tmpsOf o) s.env) s.mem k' = Ev.aOp (base P C) o { tmps := keep (tmpsOf o) 0 (stOf C.nt s).tmps, mem := s.mem } k' := fun k' => by
      rw [hF.of, ← X_aOp, keep_ev hl]
    rw [e1] at h
    rw [hmem]
    obtain ⟨v, mx, hr, h⟩ := gotE_some.mp h
    simp only [hr]
    exact ⟨_, rfl, h⟩
  · rename_i hc
    rw [hc]
    simp only
    simp only [fNats_eq] at h
    rw [seen_eq hl]
    have e1 : ∀ k', X.aOp C.toCfg o (evM (tmpsOf o) s.env) s.mem k' = Ev.aOp (base P C) o { tmps := keep (tmpsOf o) 0 (stOf C.nt s).tmps, mem := s.mem } k' := fun k' => by
      rw [hF.of, ← X_aOp, keep_ev hl]
    rw [e1] at h
    rw [hmem]
    cases hb : allMem (reach s.mem reachFuel (avsIds (lookAll s.env (tmpsOf o))) []) (avsIds (lookAll s.env (tmpsOf o))) && closedFrom s.mem (reach s.mem reachFuel (avsIds (lookAll s.env (tmpsOf o))) []) (reach s.mem reachFuel (avsIds (lookAll s.env (tmpsOf o))) []) with
    | false => simp [hb] at h
    | true =>
      simp only [hb, cond_true] at h ⊢
      obtain ⟨v, mx, hr, h⟩ := gotE_some.mp h
      simp only [hr]
      exact ⟨_, rfl, h⟩

theorem consF_eq (i : Nat) (rd wr : List Nat) (acc : List (Nat × Foot)) (k : List (Nat × Foot) → R) : consF i rd wr acc k = k (bif rd.isEmpty && wr.isEmpty then acc else (i, { rd := rd, wr := wr }) :: acc) := by
  cases rd <;> cases wr <;> rfl

theorem runE_spec (hF : Fits P C) {ops : Array Oper} {r : AV × Mem} : ∀ (l : List Oper) (i : Nat) (acc : List (Nat × Foot)) (e : Tmps) (m : Mem) (k : List (Nat × Foot) → Tmps → Mem → R), ops.toList.drop i = l → Low C.nt e → runE C ops.toList l i acc e m k = some r →
    ∃ fs st e' m', runD (base P C) ops (List.range' i l.length) (stOf C.nt ⟨e, m⟩) = some (fs, st) ∧ stOf C.nt ⟨e', m'⟩ = st ∧ Low C.nt e' ∧ k ((fs.filter footB).reverse ++ acc) e' m' = some r
  | [], i, acc, e, m, k, hd, hl, h => ⟨[], _, e, m, rfl, rfl, hl, by simpa [runE_nil] using h⟩
  | o :: l, i, acc, e, m, k, hd, hl, h => by
    have hoi : ops[i]? = some o := by
      have : (ops.toList.drop i)[0]? = some o := by rw [hd]; rfl
      simpa using this
    have hd' : ops.toList.drop (i + 1) = l := by
      have : (ops.toList.drop i).tail = l := by rw [hd]; rfl
      rw [← this, List.tail_drop]
    simp only [runE_cons] at h
    obtain ⟨e1, he1, hcase⟩ := guardK_spec (m := m) hl h
    have hl1 : Low C.nt e1 := hl.look he1
    have hst : stOf C.nt ⟨e1, m⟩ = stOf C.nt ⟨e, m⟩ := stOf_look (s := ⟨e, m⟩) (s' := ⟨e1, m⟩) he1 rfl
    rcases hcase with ⟨hw, h⟩ | ⟨hw, h⟩
    · rw [← hst] at hw
      obtain ⟨x, hx, h⟩ := stepE_spec (s := ⟨e1, m⟩) hF hl1 hw h
      simp only [fAV_eq, fMemIf_eq, fNats_eq, consF_eq, putK_eq] at h
      obtain ⟨fs, st, e', m', h1, h2, h3, h4⟩ := runE_spec hF l (i + 1) _ _ _ k hd' (hl1.put _ _) h
      rw [stOf_put C.nt e1 m x.mem o.dst x.v, hst] at h1
      rw [hst] at hx
      refine ⟨(i, x.foot) :: fs, st, e', m', ?_, h2, h3, ?_⟩
      · simp only [List.length_cons, List.range'_succ, runD, hoi, hx, h1]
      · cases hfb : footB (i, x.foot) with
        | true =>
          rw [List.filter_cons_of_pos hfb, List.reverse_cons, List.append_assoc]
          have : (x.foot.rd.isEmpty && x.foot.wr.isEmpty) = false := by unfold footB at hfb; simpa only [Bool.not_eq_true'] using hfb
          rw [this] at h4
          exact h4
        | false =>
          rw [List.filter_cons_of_neg (by simp [hfb])]
          have : (x.foot.rd.isEmpty && x.foot.wr.isEmpty) = true := by simpa [footB] using hfb
          rw [this] at h4
          exact h4
    · simp only [putK_eq] at h
      obtain ⟨fs, st, e', m', h1, h2, h3, h4⟩ := runE_spec hF l (i + 1) _ _ _ k hd' (hl1.put _ _) h
      rw [stOf_put C.nt e1 m m o.dst .skip, hst] at h1
      have hx : aStep (base P C) ops o (stOf C.nt ⟨e, m⟩) = some { v := .skip, mem := m, foot := { rd := [], wr := [] } } := by
        unfold aStep; rw [hw]; rfl
      refine ⟨(i, { rd := [], wr := [] }) :: fs, st, e', m', ?_, h2, h3, ?_⟩
      · simp only [List.length_cons, List.range'_succ, runD, hoi, hx, h1]
      · rw [List.filter_cons_of_neg (by simp [footB])]
        exact h4

theorem revF_eq : ∀ (l acc : List (Nat × Foot)), revF l acc = l.reverse ++ acc
  | [], acc => rfl
  | p :: l, acc => by simp [revF, revF_eq l]

end
end Go.Ev.X

/- The abstract evaluator: what a slice shows as an array of its own. Own work. -/
set_option linter.unusedSimpArgs false
set_option linter.unusedVariables false
namespace Go.Ev
open Go

section
variable {ok : Ok} {μ : Mu} {m : Mem} {w : World}

theorem RowAt.sees {τ : Ty} {xs : List τ.El} {c : Array Value} {base : Nat} (h : RowAt ok w τ xs c base) (v : View) (hv : v.off + v.lenN xs.length ≤ xs.length) : RowAt ok w τ (v.sees xs) c (base + v.off * τ.width) := by
  intro i hi
  have hl := View.lenN_sees v xs hv
  rw [View.sees_get v xs i hi (by omega)]
  obtain ⟨cs, h1, h2⟩ := h (v.off + i) (by omega)
  refine ⟨cs, h1, fun j u hj => ?_⟩
  rw [← h2 j u hj]
  congr 1
  rw [Nat.add_mul]; omega

theorem retail_move {id n : Nat} {τ : Ty} {xs : List τ.El} {v : View} {lim : Option Nat} {cs : List Value} (hS : Sim ok μ m w) (hid : m.get id = some (.arr τ xs false)) (hn : m.get n = none) (h : RepL ok μ m w (.ref id v lim) cs) :
    ∃ μ', Move ok μ m w ok μ' ((m.set id .dead).set n (.arr τ (v.sees xs) false)) w ∧ RepL ok μ' ((m.set id .dead).set n (.arr τ (v.sees xs) false)) w (.ref n (.tail 0) none) cs := by
  obtain ⟨u, rfl, hne, h⟩ := h
  simp only [hid, Option.bind_some, Obj.row] at h
  obtain ⟨a, cap, rfl, h1, h2, h3, h4, h5⟩ := h
  have hlen := View.lenN_sees v xs h1
  obtain ⟨⟨hw, hbig⟩, hO⟩ := hS.objs id _ hid
  have hnid : n ≠ id := fun e => by rw [e, hid] at hn; cases hn
  rcases h5 with ⟨B, base, sz, e1, rfl, e2⟩ | ⟨e1, e2⟩
  · rcases hO with ⟨e, _⟩ | ⟨B', base', sz', c, E, fz, f1, f2, f3, f4, f5, f6, f7, f8⟩
    · rw [e] at e1; simp at e1
    · rw [f1] at e1
      simp only [Option.some.injEq, Prod.mk.injEq] at e1
      obtain ⟨rfl, rfl, rfl⟩ := e1
      have hmul : (v.off + v.lenN xs.length) * τ.width ≤ xs.length * τ.width := Nat.mul_le_mul_right _ h1
      have hmv : Move ok μ m w ok (μ.put n (some (B', base' + v.off * τ.width, sz'))) ((m.set id .dead).set n (.arr τ (v.sees xs) false)) w := by
        refine move_take hS hid rfl ⟨base', sz', f1⟩ hn rfl (fun _ _ => rfl) (fun _ _ => rfl) ⟨⟨hw, by omega⟩, .inr ⟨B', base' + v.off * τ.width, sz', c, E, fz, Mu.put_self _ _ _, f2, f3, f4, ?_, f6.sees v h1, fun q hq => (by have := (f7 q hq).1; cases this), ?_⟩⟩
        · rw [hlen]; rw [Nat.add_mul] at hmul; omega
        · obtain ⟨ys, g1, g2⟩ := f8
          refine ⟨xs.drop (v.off + v.lenN xs.length) ++ ys, ?_, ?_⟩
          · rw [hlen]
            simp only [List.length_append, List.length_drop, Nat.add_mul, Nat.sub_mul]
            rw [Nat.add_mul] at hmul
            omega
          · rw [hlen]
            have hpos : base' + v.off * τ.width + v.lenN xs.length * τ.width = base' + (v.off + v.lenN xs.length) * τ.width := by rw [Nat.add_mul]; omega
            rw [hpos]
            have hd := f6.drop (v.off + v.lenN xs.length)
            rw [rowAt_iff] at hd g2 ⊢
            intro i x hx
            rcases Nat.lt_or_ge i (xs.drop (v.off + v.lenN xs.length)).length with hi | hi
            · rw [List.getElem?_append_left hi] at hx
              exact hd i x hx
            · rw [List.getElem?_append_right hi] at hx
              obtain ⟨cs, k1, k2⟩ := g2 _ x hx
              refine ⟨cs, k1, fun j u hj => ?_⟩
              rw [← k2 j u hj]
              congr 1
              simp only [List.length_drop, Nat.sub_mul, Nat.add_mul] at hi ⊢
              have : (xs.length - (v.off + v.lenN xs.length)) * τ.width ≤ i * τ.width := Nat.mul_le_mul_right _ hi
              simp only [Nat.sub_mul, Nat.add_mul] at this hmul
              omega
      refine ⟨_, hmv, _, rfl, by rw [Mu.put_self]; simp, ?_⟩
      simp only [Mem.get_set_self, Option.bind_some, Obj.row]
      refine ⟨_, cap, by rw [View.lenN, hlen]; rfl, by simp [View.off, View.lenN], by simpa [View.lenN, hlen] using h2, by simp, fun _ => by simp only [View.off]; omega, .inl ⟨B', base' + v.off * τ.width, sz', Mu.put_self _ _ _, by simp [View.off], ?_⟩⟩
      rw [Nat.add_mul] at e2
      show base' + v.off * τ.width + (0 + cap) * τ.width ≤ sz'
      rw [Nat.zero_add]
      omega
  · have hnil : v.sees xs = [] := List.length_eq_zero_iff.mp (by omega)
    rw [hnil]
    have hmd := move_dead hS hid
    have hme := move_empty (id := n) hmd.sim (by rw [Mem.get_set_ne _ _ (fun e => hnid e.symm)]; exact hn) hw false
    refine ⟨_, hmd.trans hme, _, rfl, by rw [Mu.put_self]; simp, ?_⟩
    simp only [Mem.get_set_self, Option.bind_some, Obj.row]
    exact ⟨a, cap, by rw [e1]; rfl, by simp [View.off, View.lenN], by simp [View.lenN], by simp, by simp, .inr ⟨by simp [View.lenN], e2⟩⟩

theorem own_leaf {n : Nat} {l : Leaf} {k : Nat → Leaf → Mem → R} {r : AV × Mem} {cs : List Value} (hS : Sim ok μ m w) (hr : RepL ok μ m w l cs) (h : ownLeafK n l m k = some r) :
    ∃ n' l' m' μ', k n' l' m' = some r ∧ Move ok μ m w ok μ' m' w ∧ RepL ok μ' m' w l' cs := by
  unfold ownLeafK at h
  split at h
  · rename_i id v lim
    split at h
    · rename_i τ xs hid
      split at h
      · rename_i hn
        rw [oNat_eq, oMem_eq] at h
        obtain ⟨μ', h1, h2⟩ := retail_move hS hid hn hr
        exact ⟨_, _, _, μ', h, h1, h2⟩
      · cases h
    · exact ⟨_, _, _, μ, h, Move.refl hS, hr⟩
  · rename_i τ xs nl
    split at h
    · cases hw : Nat.blt 0 τ.width with
      | false => rw [hw] at h; cases h
      | true =>
        rw [hw, cond_true] at h
        split at h
        · rename_i hn
          rw [oNat_eq, oMem_eq] at h
          have hw' : 0 < τ.width := by
            have := Nat.le_of_ble_eq_true hw
            omega
          have hmv := move_empty (id := n) hS hn hw' false
          refine ⟨_, _, _, _, h, hmv, ?_⟩
          obtain ⟨hrT, a, q, cap, rfl, _, _, h3⟩ := hr
          obtain ⟨a', cap', e, _⟩ := hrT
          simp only [List.cons.injEq, Value.slice.injEq, and_true, List.length_nil] at e
          obtain ⟨rfl, rfl, rfl⟩ := e
          have hc := h3 0 rfl
          subst hc
          refine ⟨_, rfl, by rw [Mu.put_self]; simp, ?_⟩
          simp only [Mem.get_set_self, Option.bind_some, Obj.row]
          exact ⟨a, 0, by simp [View.lenN], by simp [View.off, View.lenN], by simp [View.lenN], by simp, by simp, .inr ⟨by simp [View.lenN], rfl⟩⟩
        · cases h
    · cases h
  · exact ⟨_, _, _, μ, h, Move.refl hS, hr⟩

theorem own_leaves : ∀ {ls : List Leaf} {n : Nat} {μ : Mu} {m : Mem} {k : Nat → List Leaf → Mem → R} {r : AV × Mem} {cs : List Value}, Sim ok μ m w → RepLs ok μ m w ls cs → ownLeavesK n ls m k = some r →
    ∃ n' ls' m' μ', k n' ls' m' = some r ∧ Move ok μ m w ok μ' m' w ∧ RepLs ok μ' m' w ls' cs
  | [], n, μ, m, k, r, cs, hS, hr, h => ⟨n, [], m, μ, h, Move.refl hS, hr⟩
  | l :: ls, n, μ, m, k, r, cs, hS, ⟨c, d, e, h1, h2⟩, h => by
    obtain ⟨n1, l1, m1, μ1, g1, g2, g3⟩ := own_leaf hS h1 h
    obtain ⟨n2, ls2, m2, μ2, g4, g5, g6⟩ := own_leaves g2.sim (RepLs.step' hS g2.step h2) g1
    exact ⟨n2, l1 :: ls2, m2, μ2, g4, g2.trans g5, c, d, e, RepL.step' g2.sim g5.step g3, g6⟩

theorem own_V {n : Nat} {x : V} {k : Nat → V → Mem → R} {r : AV × Mem} {v : Value} (hS : Sim ok μ m w) (hr : RepV ok μ m w x v) (h : ownVK n x m k = some r) :
    ∃ n' x' m' μ', k n' x' m' = some r ∧ Move ok μ m w ok μ' m' w ∧ RepV ok μ' m' w x' v := by
  cases x with
  | one l =>
    simp only [ownVK] at h
    obtain ⟨n1, l1, m1, μ1, g1, g2, g3⟩ := own_leaf hS hr h
    exact ⟨n1, .one l1, m1, μ1, g1, g2, g3⟩
  | agg ls =>
    obtain ⟨cs, e, hr⟩ := hr
    simp only [ownVK] at h
    obtain ⟨n1, l1, m1, μ1, g1, g2, g3⟩ := own_leaves hS hr h
    exact ⟨n1, .agg l1, m1, μ1, g1, g2, cs, e, g3⟩

theorem own_AVs : ∀ {xs : List AV} {n : Nat} {μ : Mu} {m : Mem} {k : Nat → List AV → Mem → R} {r : AV × Mem} {vs : List Value}, Sim ok μ m w → RepAVs ok μ m w xs vs → ownAVsK n xs m k = some r →
    ∃ n' xs' m' μ', k n' xs' m' = some r ∧ Move ok μ m w ok μ' m' w ∧ RepAVs ok μ' m' w xs' vs
  | [], n, μ, m, k, r, vs, hS, hr, h => ⟨n, [], m, μ, h, Move.refl hS, hr⟩
  | x :: xs, n, μ, m, k, r, vs, hS, ⟨v, s, e, h1, h2⟩, h => by
    unfold ownAVsK at h
    split at h
    · rename_i x
      obtain ⟨n1, x1, m1, μ1, g1, g2, g3⟩ := own_V hS h1 h
      obtain ⟨n2, xs2, m2, μ2, g4, g5, g6⟩ := own_AVs g2.sim (RepAVs.step' hS g2.step h2) g1
      exact ⟨n2, .val x1 :: xs2, m2, μ2, g4, g2.trans g5, v, s, e, RepV.step' g2.sim g5.step g3, g6⟩
    · obtain ⟨n2, xs2, m2, μ2, g4, g5, g6⟩ := own_AVs hS h2 h
      exact ⟨n2, x :: xs2, m2, μ2, g4, g5, v, s, e, RepAV.step' hS g5.step h1, g6⟩

theorem own_mem : ∀ {is : List Nat} {n : Nat} {μ : Mu} {m : Mem} {k : Nat → Mem → R} {r : AV × Mem}, Sim ok μ m w → ownMemK n is m k = some r →
    ∃ n' m' μ', k n' m' = some r ∧ Move ok μ m w ok μ' m' w
  | [], n, μ, m, k, r, hS, h => ⟨n, m, μ, h, Move.refl hS⟩
  | i :: is, n, μ, m, k, r, hS, h => by
    unfold ownMemK at h
    split at h
    · rename_i ls hi
      obtain ⟨B, sz, c, E, fz, h1, h2, h3, h4, h5, h6⟩ := hS.objs i _ hi
      obtain ⟨n1, ls1, m1, μ1, g1, g2, g3⟩ := own_leaves hS h5 h
      have hμ := g2.step.mu i _ h1
      split at g1
      · rename_i ls0 ho'
        rw [oMem_eq] at g1
        have hst := step_set (w' := w) (μ := μ1) (ok := ok) ho' (o' := .box false ls1) (.inr trivial) (fun _ _ _ => rfl)
        have hmv : Move ok μ1 m1 w ok μ1 (m1.set i (.box false ls1)) w :=
          move_write g2.sim ⟨_, ho', rfl⟩ ⟨0, sz, hμ⟩ ho' (.inr trivial) rfl (fun _ _ => rfl) (fun _ _ => rfl) ⟨B, sz, c, E, fz, hμ, h2, h3, h4, RepLs.step' g2.sim hst g3, h6⟩
        obtain ⟨n2, m2, μ2, g4, g5⟩ := own_mem hmv.sim g1
        exact ⟨n2, m2, μ2, g4, (g2.trans hmv).trans g5⟩
      · cases g1
    · exact own_mem hS h

end
end Go.Ev

/- The fast evaluator is sound: code, loops by contract, functions. Own work. -/
set_option linter.unusedSimpArgs false
set_option linter.unusedVariables false
namespace Go.Ev.X
open Go

section
variable {P : Program} {C : RC} {ok0 : Ok} {μ0 : Mu} {m0 : Mem} {w0 : World} {ds : List Deferred}

/-- A fast state stands for one of the model. -/
structure AtE (n : Nat) (ok0 : Ok) (μ0 : Mu) (m0 : Mem) (w0 : World) (ds : List Deferred) (s : S) (a : Act) (w : World) : Prop where
  at_ : At ok0 μ0 m0 w0 ds (stOf n s) a w
  low : Low n s.env

theorem AtE.look {n : Nat} {s s' : S} {a : Act} {w : World} (h : AtE n ok0 μ0 m0 w0 ds s a w) (he : lookE s'.env = lookE s.env) (hm : s'.mem = s.mem) : AtE n ok0 μ0 m0 w0 ds s' a w :=
  ⟨by rw [stOf_look he hm]; exact h.at_, h.low.look he⟩

theorem opsE_sound (hF : Fits P C) (hC : ∀ f, CallOK P f (C.H f)) {ops : Array Oper} {Q : Exit → Act → World → Prop} {k : S → R} {r : AV × Mem}
    (hk : ∀ s a w, k s = some r → AtE C.nt ok0 μ0 m0 w0 ds s a w → Q .normal a w) :
    ∀ (l : List Oper) (is : List Nat) {e : Tmps} {m : Mem} {a : Act} {w : World}, is.map (ops[·]?) = l.map some → AtE C.nt ok0 μ0 m0 w0 ds ⟨e, m⟩ a w → opsE C ops.toList l e m k = some r → wpOps P ops Q is a w
  | [], is, e, m, a, w, his, hat, h => by
    have : is = [] := by simpa using his
    subst this
    exact hk _ a w h hat
  | o :: l, [], e, m, a, w, his, hat, h => by simp at his
  | o :: l, i :: is, e, m, a, w, his, hat, h => by
    simp only [List.map_cons, List.cons.injEq] at his
    obtain ⟨hi, his⟩ := his
    simp only [wpOps, hi]
    simp only [opsE_cons] at h
    obtain ⟨e1, he1, hcase⟩ := guardK_spec (m := m) hat.low h
    have hat1 := hat.look (s' := ⟨e1, m⟩) he1 rfl
    obtain ⟨⟨ok, μ, hm, ht⟩, hd⟩ := hat1.at_
    have hst : stOf C.nt ⟨e1, m⟩ = stOf C.nt ⟨e, m⟩ := stOf_look (s := ⟨e, m⟩) (s' := ⟨e1, m⟩) he1 rfl
    rw [← hst] at hcase
    rcases hcase with ⟨hw, h⟩ | ⟨hw, h⟩
    · rw [wantedB_sound ht hw, if_pos rfl]
      rw [aOp_base (s := ⟨e1, m⟩) hF hat1.low] at h
      simp only [fAV_eq, fMemIf_eq, putK_eq] at h
      refine .inl ((aOp_sound (C := base P C) (hF.calls hC) hm.sim ht h).wp ?_)
      rintro v w' ⟨av, ok', μ', m', h3, h4, h5⟩
      refine opsE_sound hF hC hk l is (e := putE C.nt e1 o.dst av) (m := m') his ⟨?_, Low.put (e := e1) hat1.low _ _⟩ h3
      rw [stOf_put C.nt e1 m]
      exact At.put hd (hm.trans h4) (ht.step' hm.sim h4.step) h5
    · rw [wantedB_sound ht hw]
      simp only [Bool.false_eq_true, if_false]
      simp only [putK_eq] at h
      refine opsE_sound hF hC hk l is (e := putE C.nt e1 o.dst .skip) (m := m) his ⟨?_, Low.put (e := e1) hat1.low _ _⟩ h
      rw [stOf_put C.nt e1 m]
      exact At.put hd hm ht (show RepAV ok μ m w .skip undef from rfl)

/-- A region's numbers in the table are right. -/
def BefOK (C : RC) (id : Nat) (ops : Array Oper) : Prop := ∀ bef, C.bef id = some bef → bef = befL ops.toList [] ∧ staticOk ops bef = true

theorem drawE_sound (hF : Fits P C) (hC : ∀ f, CallOK P f (C.H f)) (hP : P.follows .mixedOrders = true) {r : AV × Mem} (id : Nat) (ops : Array Oper) (Q : Exit → Act → World → Prop) (k : S → R) (s : S) (a : Act) (w : World)
    (hk : ∀ s a w, k s = some r → AtE C.nt ok0 μ0 m0 w0 ds s a w → Q .normal a w) (hB : BefOK C id ops) (hat : AtE C.nt ok0 μ0 m0 w0 ds s a w) (h : drawE C id ops s k = some r) : (Code.region id ops true).wp P Q a w := by
  have hboth : staticOk ops (befL ops.toList []) = true ∧ drawK C ops (befL ops.toList []) s k = some r := by
    unfold drawE at h
    split at h
    · rename_i bef hb
      obtain ⟨h1, h2⟩ := hB bef hb
      subst h1
      exact ⟨h2, h⟩
    · simp only [fNats_eq] at h
      cases hst : staticOk ops (befL ops.toList []) with
      | false => simp [hst] at h
      | true => simp only [hst, cond_true] at h; exact ⟨rfl, h⟩
  obtain ⟨hst, h⟩ := hboth
  unfold drawK at h
  simp only [fMem_eq] at h
  · skip
    obtain ⟨fs, e, e', m', h1, h2, h3, h4⟩ := runE_spec hF ops.toList 0 [] s.env s.mem _ rfl hat.low h
    simp only [List.append_nil] at h4
    obtain ⟨hok, h4⟩ := gd_some.mp h4
    rw [revF_eq, List.append_nil, List.reverse_reverse] at hok
    have hrange : List.range' 0 ops.toList.length = List.range ops.size := by simp [List.range_eq_range']
    rw [hrange] at h1
    refine wp_region_any hP (any_sound (C := base P C) (hF.calls hC) hst ops.size (List.range ops.size) (Array.replicate ops.size false) (stOf C.nt s) e a _ fs (by simp) (by simp) ?_ (range_inc _) ?_ h1 (filter_spec (drawOk_spec hok)) (At.drew hat.at_) ?_)
    · intro j
      rcases Nat.lt_or_ge j ops.size with hlt | hge
      · simp [hlt]
      · simp [Nat.not_lt.mpr hge]
    · intro j hj
      rcases Nat.lt_or_ge j ops.size with hlt | hge
      · simp [hlt] at hj
      · simp [Nat.not_lt.mpr hge] at hj
    · intro e' a' w' hs hat2
      refine hk _ a' w' h4 ⟨?_, h3⟩
      have := hat2.norm hs
      rw [← h2] at this
      exact this

/-! ### canonical states -/
theorem headK_sound (hS0 : Sim ok0 μ0 m0 w0) (hs : ∀ i, (m0.get i).isSome → i < 100) {ok : Ok} {μ : Mu} {m : Mem} {w : World} {vals : List AV} {vs : List Value} {deep : Bool} {k : List AV → Mem → R} {r : AV × Mem}
    (hm : Move ok0 μ0 m0 w0 ok μ m w) (ht : RepAVs ok μ m w vals vs) (h : headK deep vals m k = some r) :
    ∃ vals' m' μ', k vals' m' = some r ∧ Move ok0 μ0 m0 w0 ok μ' m' w ∧ RepAVs ok μ' m' w vals' vs := by
  rw [headK_eq] at h
  obtain ⟨r1, r2⟩ := reach_nodup m reachFuel (given m ++ avsIds vals) [] (by simp) (by simp)
  obtain ⟨n1, n2⟩ := addMiss_sound (r := given m) r1
  generalize addMiss (reach m reachFuel (given m ++ avsIds vals) []) (given m) = ids at n1 n2 h
  have hsome : ∀ i ∈ ids, (m.get i).isSome := by
    intro i hi
    rcases (n2 i).mp hi with h | h
    · exact r2 i h
    · exact (given_sound.mp h).1
  have hinj := nameOf_inj n1
  obtain ⟨q1, q2, q3⟩ := name_sim (f := nameOf ids) hm.sim n1 hsome hinj
  have hkept : ∀ i, (m0.get i).isSome → ∃ k, ids[k]? = some i ∧ nameOf ids k = i := by
    intro i hi
    have hlt := hs i hi
    obtain ⟨o, ho⟩ := Option.isSome_iff_exists.mp hi
    obtain ⟨o', ho', _⟩ := hm.step.shape i o ho
    have hin : i ∈ ids := (n2 i).mpr (.inr (given_sound.mpr ⟨by simp [ho'], hlt⟩))
    obtain ⟨k, hk, hki⟩ := List.getElem_of_mem hin
    refine ⟨k, by rw [List.getElem?_eq_getElem hk, hki], ?_⟩
    unfold nameOf
    rw [getD_get _ _ _ hk, hki]
    have : Nat.blt i 100 = true := Nat.ble_eq_true_of_le hlt
    rw [this]; rfl
  refine ⟨_, _, _, h, since_swap hm q2 ?_ ?_ q3, ht.ren hm.sim q1⟩
  · intro i pl hi
    have hsome0 : (m0.get i).isSome := by
      obtain ⟨o, ho⟩ := hS0.get hi
      simp [ho]
    obtain ⟨k, hk, hki⟩ := hkept i hsome0
    rw [← hki, nameMu_some hinj hk]
    exact hm.step.mu i pl hi
  · intro i o ho
    obtain ⟨k, hk, hki⟩ := hkept i (by simp [ho])
    obtain ⟨o', ho', hsh⟩ := hm.step.shape i o ho
    have hlt := (List.getElem?_eq_some_iff.mp hk).1
    rcases pickMem_names (m := m) (ρ := fun i => (idx? i ids 0).map (nameOf ids)) (f := nameOf ids) (ids := ids) (k := 0) (j := nameOf ids k) (fun a b ha hb => hinj a b (by omega) (by omega)) hsome with ⟨p, i', o2, h1, h2, h3, h4⟩ | ⟨h1, h2⟩
    · simp only [Nat.zero_add] at h2
      have hp := (List.getElem?_eq_some_iff.mp h1).1
      have := hinj _ _ hlt hp h2
      subst this
      rw [hk] at h1
      cases h1
      rw [ho'] at h3
      cases h3
      rw [hki] at h4
      exact ⟨_, h4, hsh.ren_right⟩
    · exact absurd (by simp) (h1 k hlt)

theorem hdK_sound {C : RC} {key : Nat} (hS0 : Sim ok0 μ0 m0 w0) (hs : ∀ i, (m0.get i).isSome → i < 100) {ok : Ok} {μ : Mu} {m : Mem} {w : World} {vals : List AV} {vs : List Value} {k : List AV → Mem → R} {r : AV × Mem}
    (hm : Move ok0 μ0 m0 w0 ok μ m w) (ht : RepAVs ok μ m w vals vs) (h : hdK C key vals m k = some r) :
    ∃ vals' m' μ', k vals' m' = some r ∧ Move ok0 μ0 m0 w0 ok μ' m' w ∧ RepAVs ok μ' m' w vals' vs := by
  unfold hdK at h
  cases ho : C.own key with
  | false => rw [ho] at h; exact headK_sound hS0 hs hm ht h
  | true =>
    rw [ho, cond_true] at h
    unfold ownAllK at h
    rw [oMem_eq] at h
    obtain ⟨n1, vals1, m1, μ1, h1, h2, h3⟩ := own_AVs hm.sim ht h
    obtain ⟨n2, m2, μ2, h4, h5⟩ := own_mem h2.sim h1
    exact headK_sound hS0 hs ((hm.trans h2).trans h5) (RepAVs.step' h2.sim h5.step h3) h4

/-- The values of some temporaries. -/
def AtV (n : Nat) (live : List Nat) (ok0 : Ok) (μ0 : Mu) (m0 : Mem) (w0 : World) (ds : List Deferred) (vals : List AV) (m : Mem) (a : Act) (w : World) : Prop :=
  AtE n ok0 μ0 m0 w0 ds { env := placeE live vals, mem := m } a w

theorem rep_lookAll {ok : Ok} {μ : Mu} {m : Mem} {w : World} {e : Tmps} {f : Nat → Value} (h : ∀ t, RepAV ok μ m w (lookE e t) (f t)) : ∀ (l : List Nat), RepAVs ok μ m w (lookAll e l) (l.map f)
  | [] => rfl
  | t :: l => ⟨f t, l.map f, rfl, h t, rep_lookAll h l⟩

theorem rep_place {ok : Ok} {μ : Mu} {m : Mem} {w : World} {f : Nat → Value} : ∀ {live : List Nat} {vals : List AV}, RepAVs ok μ m w vals (live.map f) → ∀ t, RepAV ok μ m w (lookE (placeE live vals) t) (f t)
  | [], vals, h, t => by
    cases vals <;> trivial
  | i :: live, [], h, t => by trivial
  | i :: live, v :: vals, ⟨u, s, e, h1, h2⟩, t => by
    simp only [List.map_cons, List.cons.injEq] at e
    obtain ⟨rfl, rfl⟩ := e
    simp only [placeE, lookE_cons]
    by_cases hi : i = t
    · subst hi; simpa using h1
    · simpa [hi] using rep_place h2 t

theorem low_place {n : Nat} : ∀ {live : List Nat} {vals : List AV}, (∀ t ∈ live, t < n) → Low n (placeE live vals)
  | [], vals, _ => fun t _ => by cases vals <;> rfl
  | i :: live, [], _ => fun t _ => rfl
  | i :: live, v :: vals, h => fun t ht => by
    have : i ≠ t := fun e => by have := h i (by simp); omega
    simp only [placeE, lookE_cons, this, if_false]
    exact low_place (fun t ht => h t (by simp [ht])) t ht

theorem AtE.size {n : Nat} {s : S} {a : Act} {w : World} (h : AtE n ok0 μ0 m0 w0 ds s a w) : a.tmps.size = n := by
  obtain ⟨⟨ok, μ, _, ht⟩, _⟩ := h.at_
  have := ht.length
  simpa [stOf] using this

theorem rep_ofAll {ok : Ok} {μ : Mu} {m : Mem} {w : World} {s : S} {a : Act} {n : Nat} (hl : Low n s.env) (ht : RepAVs ok μ m w (stOf n s).tmps a.tmps.toList) (t : Nat) : RepAV ok μ m w (lookE s.env t) (a.tmps.toList.getD t undef) := by
  have := ht.get t
  rwa [stOf_get hl] at this

theorem rep_stOf {ok : Ok} {μ : Mu} {m : Mem} {w : World} {s : S} : ∀ {vs : List Value} (n : Nat) (f : Nat → AV), vs.length = n → (∀ t, RepAV ok μ m w (f t) (vs.getD t undef)) → RepAVs ok μ m w ((List.range n).map f) vs := by
  intro vs
  induction vs with
  | nil => intro n f hn h; simp at hn; subst hn; rfl
  | cons v vs ih =>
    intro n f hn h
    cases n with
    | zero => simp at hn
    | succ n =>
      rw [List.range_succ_eq_map]
      simp only [List.map_cons, List.map_map]
      exact ⟨v, vs, rfl, by simpa using h 0, ih n _ (by simpa using hn) fun t => by simpa using h (t + 1)⟩

theorem AtE.head (hS0 : Sim ok0 μ0 m0 w0) (hs : ∀ i, (m0.get i).isSome → i < 100) {n : Nat} {live : List Nat} (hlive : ∀ t ∈ live, t < n) {deep : Bool} {s : S} {a : Act} {w : World} {k : List AV → Mem → R} {r : AV × Mem}
    (hat : AtE n ok0 μ0 m0 w0 ds s a w) (h : headK deep (lookAll s.env live) s.mem k = some r) : ∃ vals m, k vals m = some r ∧ AtV n live ok0 μ0 m0 w0 ds vals m a w := by
  have hsz := hat.size
  obtain ⟨⟨ok, μ, hm, ht⟩, hd⟩ := hat.at_
  have h1 := rep_lookAll (rep_ofAll hat.low ht) live
  obtain ⟨vals', m', μ', h2, h3, h4⟩ := headK_sound hS0 hs hm h1 h
  refine ⟨vals', m', h2, ⟨⟨⟨ok, μ', h3, ?_⟩, hd⟩, low_place hlive⟩⟩
  exact rep_stOf (s := s) n _ (by simpa using hsz) (rep_place h4)

theorem AtE.hd {C : RC} {key : Nat} (hS0 : Sim ok0 μ0 m0 w0) (hs : ∀ i, (m0.get i).isSome → i < 100) {n : Nat} {live : List Nat} (hlive : ∀ t ∈ live, t < n) {s : S} {a : Act} {w : World} {k : List AV → Mem → R} {r : AV × Mem}
    (hat : AtE n ok0 μ0 m0 w0 ds s a w) (h : hdK C key (lookAll s.env live) s.mem k = some r) : ∃ vals m, k vals m = some r ∧ AtV n live ok0 μ0 m0 w0 ds vals m a w := by
  have hsz := hat.size
  obtain ⟨⟨ok, μ, hm, ht⟩, hd⟩ := hat.at_
  have h1 := rep_lookAll (rep_ofAll hat.low ht) live
  obtain ⟨vals', m', μ', h2, h3, h4⟩ := hdK_sound hS0 hs hm h1 h
  refine ⟨vals', m', h2, ⟨⟨⟨ok, μ', h3, ?_⟩, hd⟩, low_place hlive⟩⟩
  exact rep_stOf (s := s) n _ (by simpa using hsz) (rep_place h4)

/-! ### results -/
/-- The results of a function. -/
def RetAt (P : Program) (res : List ResultVar) (ok0 : Ok) (μ0 : Mu) (m0 : Mem) (w0 : World) (ds : List Deferred) (vals : List AV) (m : Mem) (a : Act) (w : World) : Prop :=
  a.defers = ds ∧ ∃ ok μ vs, Move ok0 μ0 m0 w0 ok μ m w ∧ RepAVs ok μ m w vals vs ∧
    (res.mapM (fun rv => (match rv with | .tmp t => pure (a.tmps.getD t undef) | .cell c t => do loadVar t (← asAddr (a.tmps.getD c undef)) : Sem Value))).run P w = .ok vs w

theorem resE_base (hF : Fits P C) {s : S} (hl : Low C.nt s.env) (rv : ResultVar) {v : AV} (h : resE C s rv = some v) : ∃ x, v = .val x ∧ resultV P (stOf C.nt s) rv = some x := by
  cases rv with
  | tmp t =>
    simp only [resE] at h
    simp only [resultV]
    rw [show (stOf C.nt s).tmps.getD t AV.undef = lookE s.env t from stOf_get hl t]
    split at h
    · rename_i x hx
      simp only [Option.some.injEq] at h
      exact ⟨x, h.symm, by rw [hx]⟩
    · cases h
  | cell c t =>
    simp only [resE] at h
    simp only [resultV]
    rw [show (stOf C.nt s).tmps.getD c AV.undef = lookE s.env c from stOf_get hl c]
    split at h
    · rename_i id off hx
      rw [hx]
      simp only
      split at h
      · rename_i ro ls hg
        obtain ⟨x, h1, h2⟩ := Option.map_eq_some_iff.mp h
        refine ⟨x, h2.symm, ?_⟩
        rw [show (stOf C.nt s).mem.get id = some (.box ro ls) from hg]
        simp only
        rw [← h1, hF.T]
        rfl
      · cases h
    · cases h

theorem resAll_base (hF : Fits P C) {s : S} (hl : Low C.nt s.env) : ∀ (rs : List ResultVar) {vs : List AV}, resAll C s rs = some vs → ∃ xs, vs = xs.map .val ∧ resultVs P (stOf C.nt s) rs = some xs
  | [], vs, h => by simp only [resAll, Option.some.injEq] at h; subst h; exact ⟨[], rfl, rfl⟩
  | rv :: rs, vs, h => by
    simp only [resAll] at h
    split at h
    · rename_i v vs' h1 h2
      simp only [Option.some.injEq] at h
      subst h
      obtain ⟨x, rfl, e1⟩ := resE_base hF hl rv h1
      obtain ⟨xs, rfl, e2⟩ := resAll_base hF hl rs h2
      exact ⟨x :: xs, rfl, by simp only [resultVs, e1, e2]⟩
    · cases h

theorem RepVs.avs {ok : Ok} {μ : Mu} {m : Mem} {w : World} : ∀ {xs : List V} {vs : List Value}, RepVs ok μ m w xs vs → RepAVs ok μ m w (xs.map .val) vs
  | [], vs, h => h
  | x :: xs, vs, ⟨v, s, e, h1, h2⟩ => ⟨v, s, e, h1, RepVs.avs h2⟩

theorem toVs_rep {ok : Ok} {μ : Mu} {m : Mem} {w : World} : ∀ {vals : List AV} {xs : List V} {vs : List Value}, toVs vals = some xs → RepAVs ok μ m w vals vs → RepVs ok μ m w xs vs
  | [], xs, vs, h, hr => by simp only [toVs, Option.some.injEq] at h; subst h; exact hr
  | v :: vals, xs, vs, h, ⟨u, s, e, h1, h2⟩ => by
    cases v with
    | val x =>
      simp only [toVs] at h
      split at h
      · rename_i ys hys
        simp only [Option.some.injEq] at h
        subst h
        exact ⟨u, s, e, h1, toVs_rep hys h2⟩
      · cases h
    | _ => simp [toVs] at h

theorem retE_sound (hF : Fits P C) (hS0 : Sim ok0 μ0 m0 w0) (hs : ∀ i, (m0.get i).isSome → i < 100) {s : S} {a : Act} {w : World} {k : List AV → Mem → R} {r : AV × Mem} (hat : AtE C.nt ok0 μ0 m0 w0 ds s a w) (h : retE C s k = some r) :
    ∃ vals m, k vals m = some r ∧ RetAt P C.res ok0 μ0 m0 w0 ds vals m a w := by
  unfold retE at h
  split at h
  · rename_i vs hvs
    obtain ⟨xs, rfl, hx⟩ := resAll_base hF hat.low C.res hvs
    obtain ⟨⟨ok, μ, hm, ht⟩, hd⟩ := hat.at_
    obtain ⟨us, h1, h2⟩ := resultVs_sound hm.sim ht hx
    obtain ⟨vals', m', μ', h3, h4, h5⟩ := hdK_sound hS0 hs hm (RepVs.avs h2) h
    exact ⟨vals', m', h3, hd, ok, μ', us, h4, h5, h1⟩
  · cases h

theorem retK_sound {fn : Func} (hres : C.res = fn.results.toList) {vals : List AV} {m : Mem} {a : Act} {w : World} {k : AK} {r : AV × Mem} (h : retK k vals m = some r) (hat : RetAt P C.res ok0 μ0 m0 w0 ds vals m a w) :
    a.defers = ds ∧ ∃ v, (results fn a.tmps).run P w = .ok v w ∧ ∃ rv m' ok μ, k rv m' = some r ∧ Move ok0 μ0 m0 w0 ok μ m' w ∧ RepAV ok μ m' w rv v := by
  obtain ⟨hd, ok, μ, vs, hm, hr, hrun⟩ := hat
  refine ⟨hd, ?_⟩
  have key : (results fn a.tmps).run P w = .ok (if h : vs.toArray.size = 1 then vs.toArray[0] else .tuple vs.toArray) w := by
    have h3 : (fn.results.mapM (fun rv => (match rv with | .tmp t => pure (a.tmps.getD t undef) | .cell c t => do loadVar t (← asAddr (a.tmps.getD c undef)) : Sem Value))).run P w = .ok vs.toArray w := by
      rw [Array.mapM_eq_mapM_toList, Sem.run_map, ← hres, hrun]
      rfl
    unfold results
    simp only [Sem.run_bind, Sem.run_pure]
    erw [h3]
    rfl
  unfold retK at h
  split at h
  · rename_i x hx
    obtain ⟨u, s, e, h1, h2⟩ := toVs_rep hx hr
    have hs : s = [] := h2
    subst hs
    subst e
    exact ⟨u, by simpa using key, .val x, m, ok, μ, h, hm, h1⟩
  · rename_i xs hne hx
    have hxs := toVs_rep hx hr
    have hsz : vs.toArray.size ≠ 1 := by
      intro h
      have hl : xs.length = 1 := by rw [← RepVs.length hxs]; simpa using h
      match xs, hl with
      | [v], _ => exact hne v rfl
    rw [dif_neg hsz] at key
    exact ⟨_, key, .tup xs, m, ok, μ, h, hm, vs.toArray, rfl, by simpa using hxs⟩
  · cases h

/-! ### loops by contract -/
/-- A loop's contract: with some count of rounds each round hands on what is owed. -/
def LoopOK (C : RC) (b : Code) (p : List AV → Mem → XK → R) : Prop :=
  ∃ q : Nat → List AV → Mem → XK → R, (∀ v m K r, p v m K = some r → ∃ n, q n v m K = some r) ∧ (∀ v m K, q 0 v m K = none) ∧
    ∀ n v m K r, q (n + 1) v m K = some r → run C b { env := placeE (C.ll (loopKey b)) v, mem := m } { K with normal := fun s => hdK C (loopKey b) (lookAll s.env (C.ll (loopKey b))) s.mem fun v m => q n v m K } = some r

/-- Of all loops in a code whose contract is asked. -/
def LoopsOK (C : RC) : Code → Prop
  | .seq a b => LoopsOK C a ∧ LoopsOK C b
  | .cond _ a b => LoopsOK C a ∧ LoopsOK C b
  | .block id b => (∀ t ∈ C.lx id, t < C.nt) ∧ LoopsOK C b
  | .loop b => (∀ t ∈ C.ll (loopKey b), t < C.nt) ∧ LoopsOK C b ∧ ∀ p, C.loops (loopKey b) = some p → LoopOK C b p
  | .exit id => ∀ t ∈ C.lx id, t < C.nt
  | .scope b => LoopsOK C b
  | .region id ops draw => draw = true → BefOK C id ops
  | _ => True

theorem rounds_ok (C : RC) (b : Code) : LoopOK C b (fun v m K => rounds (fun v m k => run C b { env := placeE (C.ll (loopKey b)) v, mem := m } k) (fun s => hdK C (loopKey b) (lookAll s.env (C.ll (loopKey b))) s.mem) K C.fuel v m) :=
  ⟨fun n v m K => rounds (fun v m k => run C b { env := placeE (C.ll (loopKey b)) v, mem := m } k) (fun s => hdK C (loopKey b) (lookAll s.env (C.ll (loopKey b))) s.mem) K n v m,
    fun v m K r h => ⟨C.fuel, h⟩, fun _ _ _ => rfl, fun n v m K r h => h⟩

structure XKOK (C : RC) (P : Program) (ok0 : Ok) (μ0 : Mu) (m0 : Mem) (w0 : World) (ds : List Deferred) (r : AV × Mem) (k : XK) (Q : Exit → Act → World → Prop) : Prop where
  normal : ∀ s a w, k.normal s = some r → AtE C.nt ok0 μ0 m0 w0 ds s a w → Q .normal a w
  exit : ∀ i v m a w, k.exit i v m = some r → AtV C.nt (C.lx i) ok0 μ0 m0 w0 ds v m a w → Q (.exit i) a w
  ret : ∀ v m a w, k.ret v m = some r → RetAt P C.res ok0 μ0 m0 w0 ds v m a w → Q .ret a w

theorem run_sound (hF : Fits P C) (hC : ∀ f, CallOK P f (C.H f)) (hP : P.follows .mixedOrders = true) (hS0 : Sim ok0 μ0 m0 w0) (hs0 : ∀ i, (m0.get i).isSome → i < 100) {r : AV × Mem} :
    ∀ (c : Code) {s : S} {a : Act} {w : World} {k : XK} {Q : Exit → Act → World → Prop}, LoopsOK C c → XKOK C P ok0 μ0 m0 w0 ds r k Q → AtE C.nt ok0 μ0 m0 w0 ds s a w → run C c s k = some r → c.wp P Q a w
  | .skip, s, a, w, k, Q, hL, hk, hat, h => wp_skip (hk.normal s a w (by simpa [run_skip, run_label, run_region, run_seq, run_cond, run_block, run_loop, run_exit, run_ret, run_scope, run_goto, run_rangeFunc, run_refuse] using h) hat)
  | .label _, s, a, w, k, Q, hL, hk, hat, h => wp_label (hk.normal s a w (by simpa [run_skip, run_label, run_region, run_seq, run_cond, run_block, run_loop, run_exit, run_ret, run_scope, run_goto, run_rangeFunc, run_refuse] using h) hat)
  | .region id ops true, s, a, w, k, Q, hL, hk, hat, h => drawE_sound hF hC hP id ops Q k.normal s a w hk.normal (hL rfl) hat (by simpa [run_skip, run_label, run_region, run_seq, run_cond, run_block, run_loop, run_exit, run_ret, run_scope, run_goto, run_rangeFunc, run_refuse] using h)
  | .region id ops false, s, a, w, k, Q, hL, hk, hat, h => wp_region (opsE_sound hF hC hk.normal ops.toList (List.range ops.size) (range_ops ops) hat (by simpa [run_skip, run_label, run_region, run_seq, run_cond, run_block, run_loop, run_exit, run_ret, run_scope, run_goto, run_rangeFunc, run_refuse] using h))
  | .seq x y, s, a, w, k, Q, hL, hk, hat, h => by
    refine wp_seq (run_sound hF hC hP hS0 hs0 x (k := { k with normal := fun s' => run C y s' k }) hL.1 ⟨?_, hk.exit, hk.ret⟩ hat (by simpa [run_skip, run_label, run_region, run_seq, run_cond, run_block, run_loop, run_exit, run_ret, run_scope, run_goto, run_rangeFunc, run_refuse] using h))
    intro s' a' w' h' hat'
    exact run_sound hF hC hP hS0 hs0 y hL.2 hk hat' h'
  | .cond c x y, s, a, w, k, Q, hL, hk, hat, h => by
    simp only [run_skip, run_label, run_region, run_seq, run_cond, run_block, run_loop, run_exit, run_ret, run_scope, run_goto, run_rangeFunc, run_refuse, branchK, branchE] at h
    obtain ⟨⟨ok, μ, hm, ht⟩, hd⟩ := hat.at_
    have hev : RepAV ok μ s.mem w (evE s.env c) (a.eval c) := by
      have := ev_sound ht c
      rwa [stOf_ev hat.low] at this
    split at h
    · rename_i t
      obtain ⟨b, hb, h'⟩ := boolK_some h
      have hb' : evE s.env (.tmp t) = .one (.bool b) := hb
      rw [hb'] at hev
      have hv := rep_bool hev
      cases b with
      | true => exact wp_cond hv (run_sound hF hC hP hS0 hs0 x hL.1 hk (hat.look (s' := { s with env := (t, .one (.bool true)) :: s.env }) (lookE_same hb) rfl) h')
      | false => exact wp_cond hv (run_sound hF hC hP hS0 hs0 y hL.2 hk (hat.look (s' := { s with env := (t, .one (.bool false)) :: s.env }) (lookE_same hb) rfl) h')
    · obtain ⟨b, hb, h'⟩ := boolK_some h
      rw [hb] at hev
      have hv := rep_bool hev
      cases b with
      | true => exact wp_cond hv (run_sound hF hC hP hS0 hs0 x hL.1 hk hat h')
      | false => exact wp_cond hv (run_sound hF hC hP hS0 hs0 y hL.2 hk hat h')
  | .block id x, s, a, w, k, Q, hL, hk, hat, h => by
    simp only [run_skip, run_label, run_region, run_seq, run_cond, run_block, run_loop, run_exit, run_ret, run_scope, run_goto, run_rangeFunc, run_refuse] at h
    refine wp_block (run_sound hF hC hP hS0 hs0 x (k := { k with exit := fun i vals m => bif Nat.beq i id then k.normal { env := placeE (C.lx id) vals, mem := m } else k.exit i vals m }) hL.2 ⟨hk.normal, ?_, hk.ret⟩ hat h)
    intro i v m a' w' h' hat'
    simp only [nbeq] at h'
    by_cases e : i = id
    · simp only [e, decide_true, cond_true] at h'
      simp only [Exit.inBlock, e, if_true]
      exact hk.normal _ a' w' h' (e ▸ hat')
    · simp only [e, decide_false, cond_false] at h'
      simp only [Exit.inBlock, e, if_false]
      exact hk.exit i v m a' w' h' hat'
  | .loop b, s, a, w, k, Q, hL, hk, hat, h => by
    simp only [run_skip, run_label, run_region, run_seq, run_cond, run_block, run_loop, run_exit, run_ret, run_scope, run_goto, run_rangeFunc, run_refuse] at h
    obtain ⟨v, m, h, hv⟩ := hat.hd hS0 hs0 hL.1 h
    have key : ∀ p, LoopOK C b p → p v m k = some r → (Code.loop b).wp P Q a w := by
      rintro p ⟨q, hq1, hq0, hq2⟩ hp
      obtain ⟨n, hn⟩ := hq1 v m k r hp
      refine loop_rounds (J := fun n a w => ∃ v m, q n v m k = some r ∧ AtV C.nt (C.ll (loopKey b)) ok0 μ0 m0 w0 ds v m a w) ?_ ?_ (n := n) ⟨v, m, hn, hv⟩
      · rintro a w ⟨v, m, h, _⟩
        rw [hq0] at h
        cases h
      · rintro n a w ⟨v, m, h, hv⟩
        refine run_sound hF hC hP hS0 hs0 b (k := { k with normal := fun s => hdK C (loopKey b) (lookAll s.env (C.ll (loopKey b))) s.mem fun v m => q n v m k }) hL.2.1 ⟨?_, hk.exit, hk.ret⟩ hv (hq2 n v m k r h)
        intro s' a' w' h' hat'
        obtain ⟨v', m', h1, h2⟩ := hat'.hd hS0 hs0 hL.1 h'
        exact ⟨v', m', h1, h2⟩
    split at h
    · rename_i p hp
      exact key p (hL.2.2 p hp) h
    · exact key _ (rounds_ok C b) h
  | .exit id, s, a, w, k, Q, hL, hk, hat, h => by
    simp only [run_skip, run_label, run_region, run_seq, run_cond, run_block, run_loop, run_exit, run_ret, run_scope, run_goto, run_rangeFunc, run_refuse] at h
    obtain ⟨v, m, h1, h2⟩ := hat.head hS0 hs0 hL h
    exact wp_exit (hk.exit id v m a w h1 h2)
  | .ret, s, a, w, k, Q, hL, hk, hat, h => by
    simp only [run_skip, run_label, run_region, run_seq, run_cond, run_block, run_loop, run_exit, run_ret, run_scope, run_goto, run_rangeFunc, run_refuse] at h
    obtain ⟨v, m, h1, h2⟩ := retE_sound hF hS0 hs0 hat h
    exact wp_ret (hk.ret v m a w h1 h2)
  | .rangeFunc _ _ _ _, s, a, w, k, Q, hL, hk, hat, h => by simp [run_skip, run_label, run_region, run_seq, run_cond, run_block, run_loop, run_exit, run_ret, run_scope, run_goto, run_rangeFunc, run_refuse] at h
  | .scope x, s, a, w, k, Q, hL, hk, hat, h => by
    simp only [run_skip, run_label, run_region, run_seq, run_cond, run_block, run_loop, run_exit, run_ret, run_scope, run_goto, run_rangeFunc, run_refuse] at h
    exact wp_scope_straight (run_sound hF hC hP hS0 hs0 x hL (k := k) ⟨hk.normal, hk.exit, hk.ret⟩ hat h)
  | .goto _, s, a, w, k, Q, hL, hk, hat, h => by simp [run_skip, run_label, run_region, run_seq, run_cond, run_block, run_loop, run_exit, run_ret, run_scope, run_goto, run_rangeFunc, run_refuse] at h

end

theorem argE_get : ∀ (args : List AV) (i t : Nat), lookE (argE i args) t = if i ≤ t then args.getD (t - i) .any else .any
  | [], i, t => by simp [argE, lookE]
  | v :: vs, i, t => by
    simp only [argE, lookE_cons, argE_get vs (i + 1) t]
    by_cases h : i = t
    · subst h; simp
    · by_cases h2 : i + 1 ≤ t
      · rw [if_neg h, if_pos h2, if_pos (by omega), show t - i = (t - (i + 1)) + 1 from by omega]
        simp
      · rw [if_neg h, if_neg h2, if_neg (by omega)]

/-- A function's contract out of its body. -/
theorem body_ok {P : Program} {C : RC} (hF : Fits P C) (hC : ∀ f, CallOK P f (C.H f)) (hP : P.follows .mixedOrders = true) {f : FuncId} {fn : Func} {c : Code} (hf : P.funcs[f]? = some fn) (hb : fn.body = some c) (hname : (fn.name == "runtime.NumGoroutine") = false)
    (hnt : C.nt = fn.ntmps) (hres : C.res = fn.results.toList) (hL : LoopsOK C c) : CallOK P f (body C c) := by
  intro ok μ m w args vs k r hS hx h
  refine runs_call (by
    have h1 : fn.name ≠ "runtime.NumGoroutine" := by simpa using hname
    simp [callFunc, hf, h1, hb]) (calls_of_wp hf hb ?_)
  unfold body at h
  obtain ⟨hl, h⟩ := gd_some.mp h
  simp only [Bool.and_eq_true] at hl
  have hlen : args.length ≤ C.nt := Nat.le_of_ble_eq_true hl.2
  have hlow : ∀ i, (m.get i).isSome → i < 100 := fun i hi => lowNames_get hl.1 hi
  have hvl : vs.size = args.length := by simpa using hx.length
  have hat : AtE C.nt ok μ m w [] { env := argE 0 args, mem := m } { tmps := vs ++ Array.replicate (fn.ntmps - vs.size) undef, defers := [] } w := by
    refine ⟨⟨⟨ok, μ, Move.refl hS, ?_⟩, rfl⟩, fun t ht => ?_⟩
    · refine rep_stOf (s := { env := argE 0 args, mem := m }) C.nt _ (by simp; omega) fun t => ?_
      rw [argE_get]
      simp only [Nat.zero_le, if_true, Nat.sub_zero]
      have := hx.get t
      simp only [Array.toList_append, Array.toList_replicate]
      rcases Nat.lt_or_ge t vs.size with hlt | hge
      · have e : (vs.toList ++ List.replicate (fn.ntmps - vs.size) undef).getD t undef = vs.toList.getD t undef := by
          simp [List.getD_eq_getElem?_getD, List.getElem?_append_left (show t < vs.toList.length by simpa using hlt)]
        rw [e]
        exact this
      · have : args.getD t .any = .any := by simp [List.getD_eq_getElem?_getD, List.getElem?_eq_none (show args.length ≤ t by omega)]
        rw [this]
        trivial
    · rw [argE_get]
      simp [List.getD_eq_getElem?_getD, List.getElem?_eq_none (show args.length ≤ t by omega)]
  have fin : ∀ v m' a w', retK k v m' = some r → RetAt P C.res ok μ m w [] v m' a w' → a.defers = [] ∧ ∃ u, (results fn a.tmps).run P w' = .ok u w' ∧ ∃ v', Ending.returned u = .returned v' ∧ Post ok μ m w k r v' w' := by
    intro v m' a w' h1 h2
    obtain ⟨hd, u, h3, rv, m'', ok', μ', h4, h5, h6⟩ := retK_sound hres h1 h2
    exact ⟨hd, u, h3, u, rfl, rv, ok', μ', m'', h4, h5, h6⟩
  refine run_sound hF hC hP hS hlow c hL ⟨fun s a w' h1 h2 => ?_, fun i v m' a w' h1 h2 => by simp at h1, fun v m' a w' h1 h2 => fin v m' a w' h1 h2⟩ hat h
  obtain ⟨v, m', h3, h4⟩ := retE_sound hF hS hlow h2 h1
  exact fin v m' a w' h3 h4

end Go.Ev.X

/- Tables of types and functions. Own work. -/
set_option linter.unusedVariables false
namespace Go.Ev.X
open Go

inductive TT where
  | leaf (t : TI)
  | node (p : Nat) (l r : TT)
def TT.get : TT → Nat → TI
  | .leaf t, _ => t
  | .node p l r, i => bif Nat.blt i p then l.get i else r.get i

/-- A function's frame. -/
structure FX where
  nt : Nat
  res : List ResultVar
  ll : List (Nat × List Nat)
  lx : List (Nat × List Nat)
  bef : List (Nat × List Nat)
  pol : Pol
  code : Option Code
  deriving Inhabited

inductive FT where
  | none
  | leaf (f : Nat) (x : FX)
  | node (p : Nat) (l r : FT)
def FT.get : FT → Nat → Option FX
  | .none, _ => .none
  | .leaf f x, i => bif Nat.beq f i then some x else Option.none
  | .node p l r, i => bif Nat.blt i p then l.get i else r.get i

def lookN : List (Nat × List Nat) → Nat → List Nat
  | [], _ => []
  | (a, x) :: r, i => bif Nat.beq a i then x else lookN r i

def lookO : List (Nat × List Nat) → Nat → Option (List Nat)
  | [], _ => none
  | (a, x) :: r, i => bif Nat.beq a i then some x else lookO r i

theorem table_eq {P : Program} {tt : TT} {n : Nat} (h : (List.range n).map tt.get = (List.range n).map (tiOf P)) : (fun t => bif Nat.blt t n then tt.get t else tiOf P t) = tiOf P := by
  funext t
  cases hb : Nat.blt t n with
  | true =>
    have hlt := blt_iff.mp hb
    have := congrArg (·[t]?) h
    simpa [List.getElem?_range hlt] using this
  | false => rfl

theorem sr_table {P : Program} {l : List Nat} {n : Nat} (hn : P.funcs.size = n) (h : (List.range n).map (fun f => mem? f l) = (List.range n).map (slRes P)) : (fun f => bif Nat.blt f n then mem? f l else true) = slRes P := by
  funext t
  cases hb : Nat.blt t n with
  | true =>
    have hlt := blt_iff.mp hb
    have := congrArg (·[t]?) h
    simpa [List.getElem?_range hlt] using this
  | false =>
    have hge : ¬ t < n := fun h => by rw [blt_iff.mpr h] at hb; cases hb
    have : P.funcs[t]? = none := Array.getElem?_eq_none (by omega)
    simp [slRes, this]

end Go.Ev.X

/- The fast evaluator run to the end: calls by their bodies, out of the tables. Own work. -/
set_option linter.unusedVariables false
namespace Go.Ev.X
open Go

/-- Those that only ask. -/
def lookQ : List (Nat × (List AV → Mem → Option AV)) → Nat → Option (List AV → Mem → Option AV)
  | [], _ => none
  | (g, q) :: r, f => bif Nat.beq g f then some q else lookQ r f
def polQ (Q : List (Nat × (List AV → Mem → Option AV))) (pol : FuncId → Pol) (f : FuncId) : Pol :=
  match lookQ Q f with
  | some q => .read q
  | none => match pol f with
    | .read _ => .share
    | p => p
def hQ (Q : List (Nat × (List AV → Mem → Option AV))) (H : FuncId → List AV → Mem → AK → R) (f : FuncId) : List AV → Mem → AK → R :=
  match lookQ Q f with
  | some q => liftQ q
  | none => H f

/-- A function's set-up; 'Q': those that only ask. -/
def rcOf (T : TypeId → TI) (sr : FuncId → Bool) (pol : FuncId → Pol) (H : FuncId → List AV → Mem → AK → R) (loops : Nat → Option (List AV → Mem → XK → R)) (x : FX) (fuel : Nat) (deep : Bool) (Q : List (Nat × (List AV → Mem → Option AV)) := []) (own : List Nat := []) : RC :=
  { T := T, pol := polQ Q pol, sr := sr, H := hQ Q H, nt := x.nt, lx := lookN x.lx, ll := lookN x.ll, loops := loops, res := x.res, fuel := fuel, deep := deep, bef := lookO x.bef, own := fun k => mem? k own }

theorem polQ_rd {Q : List (Nat × (List AV → Mem → Option AV))} {pol : FuncId → Pol} {H : FuncId → List AV → Mem → AK → R} (f : FuncId) (q : List AV → Mem → Option AV) (h : polQ Q pol f = .read q) : hQ Q H f = liftQ q := by
  unfold polQ at h
  unfold hQ
  split at h
  · rename_i q' e
    cases h
    rfl
  · split at h
    · cases h
    · rename_i hn
      exact absurd h (hn q)
theorem hQ_ok {P : Program} {Q : List (Nat × (List AV → Mem → Option AV))} {H : FuncId → List AV → Mem → AK → R} (hq : ∀ f q, lookQ Q f = some q → CallOK P f (liftQ q)) (hH : ∀ f, CallOK P f (H f)) (f : FuncId) : CallOK P f (hQ Q H f) := by
  unfold hQ
  split
  · rename_i q e
    exact hq f q e
  · exact hH f

def polOf (ft : FT) (f : FuncId) : Pol := match ft.get f with | some x => x.pol | none => .share

/-- Calls by their bodies; some by contracts ('prim'). -/
noncomputable def hx (T : TypeId → TI) (sr : FuncId → Bool) (ft : FT) (prim : FuncId → Option (List AV → Mem → AK → R)) (fuel : Nat) : Nat → FuncId → List AV → Mem → AK → R
  | 0, _, _, _, _ => none
  | n + 1, f, args, m, k =>
    match prim f with
    | some p => p args m k
    | none =>
      match ft.get f with
      | some x => (match x.code with
        | some c => body (rcOf T sr (polOf ft) (hx T sr ft prim fuel n) (fun _ => none) x fuel true) c args m k
        | none => none)
      | none => none

/-- The temporaries in the tables are temporaries. -/
def beqNs : List Nat → List Nat → Bool
  | [], [] => true
  | a :: l, b :: r => Nat.beq a b && beqNs l r
  | _, _ => false
def befOk (bef : Nat → Option (List Nat)) (id : Nat) (ops : Array Oper) : Bool :=
  match bef id with
  | some b => beqNs b (befL ops.toList []) && staticOk ops b
  | none => true
def liveOk (nt : Nat) (lx ll : Nat → List Nat) (bef : Nat → Option (List Nat)) : Code → Bool
  | .seq a b => liveOk nt lx ll bef a && liveOk nt lx ll bef b
  | .cond _ a b => liveOk nt lx ll bef a && liveOk nt lx ll bef b
  | .block id b => (lx id).all (Nat.blt · nt) && liveOk nt lx ll bef b
  | .loop b => (ll (loopKey b)).all (Nat.blt · nt) && liveOk nt lx ll bef b
  | .exit id => (lx id).all (Nat.blt · nt)
  | .scope b => liveOk nt lx ll bef b
  | .region id ops draw => !draw || befOk bef id ops
  | _ => true

theorem beqNs_eq : ∀ {a b : List Nat}, beqNs a b = true → a = b
  | [], [], _ => rfl
  | [], _ :: _, h => by simp [beqNs] at h
  | _ :: _, [], h => by simp [beqNs] at h
  | x :: a, y :: b, h => by
    simp only [beqNs, Bool.and_eq_true, nbeq, decide_eq_true_eq] at h
    rw [h.1, beqNs_eq h.2]

theorem all_blt {l : List Nat} {n : Nat} : l.all (Nat.blt · n) = true ↔ ∀ t ∈ l, t < n := by
  rw [List.all_eq_true]
  exact ⟨fun h t ht => blt_iff.mp (h t ht), fun h t ht => blt_iff.mpr (h t ht)⟩

/-- Loops with their contracts, the rest by the table. -/
def LoopsOnly (C : RC) : Code → Prop
  | .seq a b => LoopsOnly C a ∧ LoopsOnly C b
  | .cond _ a b => LoopsOnly C a ∧ LoopsOnly C b
  | .block _ b => LoopsOnly C b
  | .loop b => LoopsOnly C b ∧ ∀ p, C.loops (loopKey b) = some p → LoopOK C b p
  | .scope b => LoopsOnly C b
  | _ => True

theorem loops_ok {C : RC} : ∀ {c : Code}, liveOk C.nt C.lx C.ll C.bef c = true → LoopsOnly C c → LoopsOK C c
  | .seq a b, h, h' => by simp only [liveOk, Bool.and_eq_true] at h; exact ⟨loops_ok h.1 h'.1, loops_ok h.2 h'.2⟩
  | .cond _ a b, h, h' => by simp only [liveOk, Bool.and_eq_true] at h; exact ⟨loops_ok h.1 h'.1, loops_ok h.2 h'.2⟩
  | .block id b, h, h' => by simp only [liveOk, Bool.and_eq_true, all_blt] at h; exact ⟨h.1, loops_ok h.2 h'⟩
  | .loop b, h, h' => by simp only [liveOk, Bool.and_eq_true, all_blt] at h; exact ⟨h.1, loops_ok h.2 h'.1, h'.2⟩
  | .exit id, h, h' => by simp only [liveOk, all_blt] at h; exact h
  | .scope b, h, h' => loops_ok (c := b) h h'
  | .skip, _, _ => trivial
  | .label _, _, _ => trivial
  | .region id ops draw, h, _ => fun hd bef hb => by
    subst hd
    simp only [liveOk, Bool.not_true, Bool.false_or, befOk, hb, Bool.and_eq_true] at h
    exact ⟨beqNs_eq h.1, h.2⟩
  | .ret, _, _ => trivial
  | .rangeFunc _ _ _ _, _, _ => trivial
  | .goto _, _, _ => trivial
  | .refuse _, _, _ => trivial

theorem loops_none {C : RC} (h : ∀ k, C.loops k = none) : ∀ (c : Code), LoopsOnly C c
  | .seq a b => ⟨loops_none h a, loops_none h b⟩
  | .cond _ a b => ⟨loops_none h a, loops_none h b⟩
  | .block _ b => loops_none h b
  | .loop b => ⟨loops_none h b, fun p hp => by rw [h] at hp; cases hp⟩
  | .scope b => loops_none h b
  | .skip => trivial
  | .label _ => trivial
  | .region _ _ _ => trivial
  | .ret => trivial
  | .rangeFunc _ _ _ _ => trivial
  | .goto _ => trivial
  | .exit _ => trivial
  | .refuse _ => trivial

/-- A row of the table is that of the program. -/
def rowFit (P : Program) (f : Nat) (x : FX) : Bool :=
  match P.funcs[f]?, x.code with
  | some fn, some c => Nat.beq x.nt fn.ntmps && liveOk x.nt (lookN x.lx) (lookN x.ll) (lookO x.bef) c
  | _, _ => false
def RowSame (P : Program) (f : Nat) (x : FX) : Prop := ∀ fn, P.funcs[f]? = some fn → fn.body = x.code ∧ x.res = fn.results.toList

def FT.rows : FT → List (Nat × FX)
  | .none => []
  | .leaf f x => [(f, x)]
  | .node _ l r => l.rows ++ r.rows

theorem FT.get_rows : ∀ {t : FT} {f : Nat} {x : FX}, t.get f = some x → (f, x) ∈ t.rows
  | .none, f, x, h => by simp [FT.get] at h
  | .leaf g y, f, x, h => by
    simp only [FT.get, nbeq] at h
    by_cases e : g = f
    · subst e; simp at h; subst h; simp [FT.rows]
    · simp [e] at h
  | .node p l r, f, x, h => by
    simp only [FT.get] at h
    cases hb : Nat.blt f p with
    | true => rw [hb] at h; exact List.mem_append.mpr (.inl (FT.get_rows h))
    | false => rw [hb] at h; exact List.mem_append.mpr (.inr (FT.get_rows h))

structure TabOK (P : Program) (T : TypeId → TI) (sr : FuncId → Bool) (ft : FT) : Prop where
  T : T = tiOf P
  sr : sr = slRes P
  names : namesOk P = true
  mixed : P.follows .mixedOrders = true
  rows : ∀ p ∈ ft.rows, rowFit P p.1 p.2 = true
  same : ∀ p ∈ ft.rows, RowSame P p.1 p.2

theorem TabOK.func {P : Program} {T : TypeId → TI} {sr : FuncId → Bool} {ft : FT} (h : TabOK P T sr ft) {f : Nat} {x : FX} {c : Code} (hx : ft.get f = some x) (hc : x.code = some c) :
    ∃ fn, P.funcs[f]? = some fn ∧ fn.body = some c ∧ (fn.name == "runtime.NumGoroutine") = false ∧ x.nt = fn.ntmps ∧ x.res = fn.results.toList ∧ liveOk x.nt (lookN x.lx) (lookN x.ll) (lookO x.bef) c = true := by
  have hm := FT.get_rows hx
  have h1 := h.rows _ hm
  unfold rowFit at h1
  simp only [hc] at h1
  split at h1
  · rename_i fn c' hf hc'
    cases hc'
    simp only [Bool.and_eq_true, nbeq, decide_eq_true_eq] at h1
    obtain ⟨h2, h3⟩ := h.same _ hm fn hf
    simp only at h2 h3
    rw [hc] at h2
    refine ⟨fn, hf, h2, ?_, h1.1, h3, h1.2⟩
    have := List.all_eq_true.mp h.names fn (List.mem_of_getElem? (by simpa using hf))
    simpa [h2] using this
  · cases h1

/-- It is entered. -/
theorem TabOK.enter {P : Program} {T : TypeId → TI} {sr : FuncId → Bool} {ft : FT} (h : TabOK P T sr ft) {f : Nat} {x : FX} {c : Code} (hx : ft.get f = some x) (hc : x.code = some c) (vs : Array Value) (w : World) : (callFunc f vs).run P w = .ok (.enter f vs) w := by
  obtain ⟨fn, h1, h2, h3, _⟩ := h.func hx hc
  have h4 : fn.name ≠ "runtime.NumGoroutine" := by simpa using h3
  simp [callFunc, h1, h4, h2]

/-- One function, its callees and loops by contract. -/
theorem func_ok {P : Program} {T : TypeId → TI} {sr : FuncId → Bool} {ft : FT} (h : TabOK P T sr ft) {pol : FuncId → Pol} {H : FuncId → List AV → Mem → AK → R} (hH : ∀ f, CallOK P f (H f)) {loops : Nat → Option (List AV → Mem → XK → R)} {f : Nat} {x : FX} {c : Code} {fuel : Nat} {deep : Bool} {Q : List (Nat × (List AV → Mem → Option AV))} {own : List Nat}
    (hx : ft.get f = some x) (hc : x.code = some c) (hl : LoopsOnly (rcOf T sr pol H loops x fuel deep Q own) c) (hq : ∀ f q, lookQ Q f = some q → CallOK P f (liftQ q) := by intro f q h; cases h) : CallOK P f (body (rcOf T sr pol H loops x fuel deep Q own) c) := by
  obtain ⟨fn, h1, h2, h3, h4, h5, h6⟩ := h.func hx hc
  exact body_ok ⟨h.T, h.sr, polQ_rd⟩ (hQ_ok hq hH) h.mixed h1 h2 h3 h4 h5 (loops_ok h6 hl)

theorem hx_ok {P : Program} {T : TypeId → TI} {sr : FuncId → Bool} {ft : FT} (h : TabOK P T sr ft) {prim : FuncId → Option (List AV → Mem → AK → R)} (hp : ∀ f p, prim f = some p → CallOK P f p) {fuel : Nat} :
    ∀ (n : Nat) (f : FuncId), CallOK P f (hx T sr ft prim fuel n f)
  | 0, f => by
    intro hS hx' hr
    simp [hx] at hr
  | n + 1, f => by
    intro hS hx' hr
    simp only [hx] at hr
    split at hr
    · rename_i p hpf
      exact hp f p hpf hS hx' hr
    · split at hr
      · rename_i x hgx
        split at hr
        · rename_i c hc
          exact (func_ok (Q := []) h (hx_ok h hp n) hgx hc (loops_none (fun _ => rfl) c) (by intro f q h; cases h)) hS hx' hr
        · simp at hr
      · simp at hr

end Go.Ev.X

/- Contracts over plain data; loops by a closed form. Own work. -/
set_option linter.unusedVariables false
set_option linter.unusedSimpArgs false
namespace Go.Ev
open Go

/-! ### bounds that come for free -/
def Bounded : (τ : Ty) → τ.El → Prop
  | .str => fun s => s.length ≤ big
  | .sl e => fun xs => xs.length ≤ big ∧ ∀ x ∈ xs, Bounded e x
  | .ar n e => fun xs => xs.length = n ∧ ∀ x ∈ xs, Bounded e x
  | .pair a b => fun x => Bounded a x.1 ∧ Bounded b x.2
  | .bool => fun _ => True
  | .int _ => fun _ => True
  | .fn => fun _ => True

theorem RepAll.mem {α : Type} {f : α → List Value → Prop} : ∀ {xs : List α} {cs : List Value}, RepAll f xs cs → ∀ x ∈ xs, ∃ c, f x c
  | [], _, _, x, h => by simp at h
  | y :: ys, cs, ⟨c, d, e, h1, h2⟩, x, h => by
    rcases List.mem_cons.mp h with rfl | h
    · exact ⟨c, h1⟩
    · exact RepAll.mem h2 x h

theorem RepT.bnd {ok : Ok} {w : World} : ∀ {τ : Ty} {x : τ.El} {cs : List Value}, RepT ok w τ x cs → Bounded τ x := by
  intro τ
  induction τ with
  | bool => intro x cs h; trivial
  | int k => intro x cs h; trivial
  | str => intro x cs h; obtain ⟨b, _, _, h⟩ := h; exact h
  | fn => intro x cs h; trivial
  | sl e ih =>
    intro xs cs h
    obtain ⟨a, cap, _, ⟨_, h2⟩, h3, h4⟩ := h
    refine ⟨h2, fun x hx => ?_⟩
    obtain ⟨i, hi, rfl⟩ := List.getElem_of_mem hx
    cases a with
    | none => have := h3 rfl; omega
    | some ad =>
      obtain ⟨c, hc, _⟩ := (h4 ad rfl).2 i hi
      exact ih hc
  | ar n e ih =>
    intro xs cs h
    refine ⟨h.1, fun x hx => ?_⟩
    obtain ⟨c, hc⟩ := RepAll.mem h.2 x hx
    exact ih hc
  | pair a b iha ihb =>
    intro x cs h
    obtain ⟨c, d, _, h1, h2⟩ := h
    exact ⟨iha h1, ihb h2⟩

/-! ### plain data as values -/
def avT (τ : Ty) (x : τ.El) : AV := bif τ.isAgg then .agg (τ.leaves x) else match τ.leaves x with | l :: _ => .one l | [] => .any
def unT (τ : Ty) (v : AV) : Option τ.El :=
  match v with
  | .val (.one l) => bif τ.isAgg then none else τ.read [l]
  | .val (.agg ls) => bif τ.isAgg then τ.read ls else none
  | _ => none

section
variable {ok : Ok} {μ μ' : Mu} {m m' : Mem} {w : World}

theorem avT_rep {τ : Ty} (hτ : τ.isAgg = false) {x : τ.El} {u : Value} (h : RepT ok w τ x [u]) : RepAV ok μ m w (avT τ x) u := by
  have h' := leaves_of_repT (μ := μ) (m := m) h
  unfold avT
  rw [hτ]
  simp only [cond_false]
  cases τ with
  | bool => exact (RepAll.one (f := RepL ok μ m w)).mp h'
  | int k => exact (RepAll.one (f := RepL ok μ m w)).mp h'
  | str => exact (RepAll.one (f := RepL ok μ m w)).mp h'
  | fn => cases x <;> exact (RepAll.one (f := RepL ok μ m w)).mp h'
  | sl e => exact (RepAll.one (f := RepL ok μ m w)).mp h'
  | ar n e => simp [Ty.isAgg] at hτ
  | pair a b => simp [Ty.isAgg] at hτ

theorem unT_rep {τ : Ty} {v : AV} {u : Value} {x : τ.El} (h : unT τ v = some x) (hr : RepAV ok μ m w v u) : RepAV ok μ' m' w (avT τ x) u ∧ Bounded τ x := by
  unfold unT at h
  split at h
  · cases hτ : τ.isAgg with
    | true => simp [hτ] at h
    | false =>
      simp only [hτ, cond_false] at h
      have hT := read_sound h (RepAll.one.mpr hr)
      exact ⟨avT_rep hτ hT, hT.bnd⟩
  · cases hτ : τ.isAgg with
    | false => simp [hτ] at h
    | true =>
      simp only [hτ, cond_true] at h
      obtain ⟨cs, rfl, hr⟩ := hr
      have hT := read_sound h hr
      refine ⟨?_, hT.bnd⟩
      unfold avT
      rw [hτ]
      exact ⟨cs, rfl, leaves_of_repT hT⟩
  · simp at h
end

def Ts : List Ty → Type
  | [] => Unit
  | τ :: r => τ.El × Ts r
def avTs : (ts : List Ty) → Ts ts → List AV
  | [], _ => []
  | τ :: r, x => avT τ x.1 :: avTs r x.2
def unTs : (ts : List Ty) → List AV → Option (Ts ts)
  | [], [] => some ()
  | τ :: r, v :: vs => match unT τ v with
    | some x => match unTs r vs with | some xs => some (x, xs) | none => none
    | none => none
  | _, _ => none
def BoundedTs : (ts : List Ty) → Ts ts → Prop
  | [], _ => True
  | τ :: r, x => Bounded τ x.1 ∧ BoundedTs r x.2

theorem unTs_rep {ok : Ok} {μ μ' : Mu} {m m' : Mem} {w : World} : ∀ {ts : List Ty} {args : List AV} {vs : List Value} {x : Ts ts}, unTs ts args = some x → RepAVs ok μ m w args vs → RepAVs ok μ' m' w (avTs ts x) vs ∧ BoundedTs ts x
  | [], [], vs, x, h, hr => ⟨hr, trivial⟩
  | [], _ :: _, vs, x, h, hr => by simp [unTs] at h
  | _ :: _, [], vs, x, h, hr => by simp [unTs] at h
  | τ :: r, v :: args, vs, x, h, ⟨u, s, e, h1, h2⟩ => by
    simp only [unTs] at h
    split at h
    · rename_i y hy
      split at h
      · rename_i ys hys
        cases h
        obtain ⟨a1, a2⟩ := unT_rep (μ' := μ') (m' := m') hy h1
        obtain ⟨b1, b2⟩ := unTs_rep (μ' := μ') (m' := m') hys h2
        exact ⟨⟨u, s, e, a1, b1⟩, a2, b2⟩
      · simp at h
    · simp at h

/-- A contract over plain data: what comes out is plain data too. -/
def pureP (ts : List Ty) (F : Ts ts → AK → R) : List AV → Mem → AK → R := fun args m k =>
  match m, unTs ts args with
  | [], some x => F x k
  | _, _ => none

theorem pure_ok {P : Program} {f : FuncId} {b : List AV → Mem → AK → R} {ts : List Ty} {F : Ts ts → AK → R} (hb : CallOK P f b)
    (h : ∀ x k r, BoundedTs ts x → F x k = some r → b (avTs ts x) [] (fun v m => opt (frz m v) fun v' => k v' []) = some r) : CallOK P f (pureP ts F) := by
  intro ok μ m w args vs k r hS hx hp
  unfold pureP at hp
  split at hp
  · rename_i x hu
    obtain ⟨hrep, hbnd⟩ := unTs_rep (μ' := μ) (m' := []) hu hx
    refine (hb hS hrep (h x k r hbnd hp)).mono ?_
    rintro v w' ⟨rv, ok', μ', m', hk, hmv, hrv⟩
    obtain ⟨r', hr', hk⟩ := opt_some.mp hk
    obtain ⟨ok2, hm2, hrep2⟩ := frz_settled (μ0 := μ) (m0 := []) hmv.sim hr' hrv
    have hM := hmv.trans hm2
    have hkeep : ∀ b, b < w.heap.size → w'.heap[b]? = w.heap[b]? := fun b hb => hM.keep b hb (by rintro ⟨i, ⟨o, ho, _⟩, _⟩; simp [Mem.get] at ho)
    have hokn : ∀ b o, ok2 b o → ok b o ∨ w.heap.size ≤ b := by
      intro b o hbo
      rcases hM.okn b o hbo with h | ⟨i, ⟨o', ho, _⟩, _⟩ | h
      · exact .inl h
      · simp [Mem.get] at ho
      · exact .inr h
    exact ⟨r', ok2, μ, [], hk, move_far (ok1 := ok) (ok2 := ok) hS hM.size hkeep hM.step.grow.sub hokn hM.sim.okb hM.io, hrep2⟩
  · simp at hp

/-- A contract that says less. -/
theorem CallOK.weaken {P : Program} {f : FuncId} {p q : List AV → Mem → AK → R} (hp : CallOK P f p) (h : ∀ args m k r, q args m k = some r → p args m k = some r) : CallOK P f q := by
  intro ok μ m w args vs k r hS hx hq
  exact hp hS hx (h args m k r hq)

/-! ### tables of contracts -/
def lookP : List (Nat × (List AV → Mem → AK → R)) → Nat → List AV → Mem → AK → R
  | [], _ => fun _ _ _ => none
  | (g, p) :: r, f => bif Nat.beq g f then p else lookP r f

theorem lookP_ok {P : Program} : ∀ {l : List (Nat × (List AV → Mem → AK → R))}, (∀ q ∈ l, CallOK P q.1 q.2) → ∀ f, CallOK P f (lookP l f)
  | [], _, f => by intro hS hx h; simp [lookP] at h
  | (g, p) :: r, hl, f => by
    simp only [lookP, nbeq]
    by_cases e : g = f
    · subst e
      simp only [decide_true, cond_true]
      exact hl (g, p) (by simp)
    · simp only [e, decide_false, cond_false]
      exact lookP_ok (fun q hq => hl q (by simp [hq])) f

/-! ### loops by a closed form -/
namespace X

open Classical in
/-- What a loop does from each of its states: 'mkV', 'mkM' say what stands there. -/
noncomputable def loopP {α : Type} (mkV : α → List AV) (mkM : α → Mem) (pre : α → Prop) (f : α → XK → R) : List AV → Mem → XK → R := fun v m K =>
  if h : ∃ x, v = mkV x ∧ m = mkM x ∧ pre x then f (Classical.choose h) K else none

theorem loopP_eq {α : Type} {mkV : α → List AV} {mkM : α → Mem} {pre : α → Prop} {f : α → XK → R} (inj : ∀ x y, mkV x = mkV y → mkM x = mkM y → x = y) {x : α} (hx : pre x) (K : XK) : loopP mkV mkM pre f (mkV x) (mkM x) K = f x K := by
  have h : ∃ y, mkV x = mkV y ∧ mkM x = mkM y ∧ pre y := ⟨x, rfl, rfl, hx⟩
  unfold loopP
  rw [dif_pos h]
  have hs := Classical.choose_spec h
  rw [← inj x _ hs.1 hs.2.1]

open Classical in
theorem loopP_ok {α : Type} {mkV : α → List AV} {mkM : α → Mem} {pre : α → Prop} {f : α → XK → R} (inj : ∀ x y, mkV x = mkV y → mkM x = mkM y → x = y) (μ : α → Nat) {C : RC} {b : Code}
    (h : ∀ x K r (N : List AV → Mem → R), pre x → (∀ y, pre y → μ y < μ x → N (mkV y) (mkM y) = f y K) → f x K = some r →
      run C b { env := placeE (C.ll (loopKey b)) (mkV x), mem := mkM x } { K with normal := fun s => hdK C (loopKey b) (lookAll s.env (C.ll (loopKey b))) s.mem N } = some r) :
    LoopOK C b (loopP mkV mkM pre f) := by
  let μ' : List AV → Mem → Nat := fun v m => if h : ∃ x, v = mkV x ∧ m = mkM x ∧ pre x then μ (Classical.choose h) else 0
  have hμ : ∀ x, pre x → μ' (mkV x) (mkM x) = μ x := fun x hx => by
    have h : ∃ y, mkV x = mkV y ∧ mkM x = mkM y ∧ pre y := ⟨x, rfl, rfl, hx⟩
    show (if h : ∃ y, mkV x = mkV y ∧ mkM x = mkM y ∧ pre y then μ (Classical.choose h) else 0) = _
    rw [dif_pos h]
    have hs := Classical.choose_spec h
    rw [← inj x _ hs.1 hs.2.1]
  refine ⟨fun n v m K => if μ' v m < n then loopP mkV mkM pre f v m K else none, fun v m K r hp => ⟨μ' v m + 1, by simp [hp]⟩, fun v m K => by simp, ?_⟩
  intro n v m K r hq
  have hlt : μ' v m < n + 1 := by
    rcases Nat.lt_or_ge (μ' v m) (n + 1) with h | h
    · exact h
    · simp [Nat.not_lt.mpr h] at hq
  simp only at hq
  rw [if_pos hlt] at hq
  have hex : ∃ x, v = mkV x ∧ m = mkM x ∧ pre x := by
    unfold loopP at hq
    split at hq
    · assumption
    · cases hq
  obtain ⟨x, rfl, rfl, hx⟩ := hex
  rw [loopP_eq inj hx] at hq
  rw [hμ x hx] at hlt
  refine h x K r _ hx (fun y hy hyx => ?_) hq
  simp only
  rw [hμ y hy, if_pos (by omega), loopP_eq inj hy]

attribute [irreducible] loopP

/-- Loops in a table. -/
def lookL : List (Nat × (List AV → Mem → XK → R)) → Nat → Option (List AV → Mem → XK → R)
  | [], _ => none
  | (g, p) :: r, f => bif Nat.beq g f then some p else lookL r f

/-- The loops of a code. -/
def loopsOf : Code → List Code
  | .seq a b => loopsOf a ++ loopsOf b
  | .cond _ a b => loopsOf a ++ loopsOf b
  | .block _ b => loopsOf b
  | .loop b => b :: loopsOf b
  | .scope b => loopsOf b
  | _ => []
def loopIn (k : Nat) : List Code → Code
  | [] => .skip
  | b :: r => bif Nat.beq (loopKey b) k then b else loopIn k r
/-- The loop of a number. -/
def loopB (k : Nat) (c : Code) : Code := loopIn k (loopsOf c)
def codeOf (x : FX) : Code := match x.code with | some c => c | none => .skip
def nodupB : List Nat → Bool
  | [] => true
  | a :: r => !mem? a r && nodupB r

theorem loopIn_mem : ∀ {l : List Code} {b : Code}, nodupB (l.map loopKey) = true → b ∈ l → loopIn (loopKey b) l = b
  | [], b, _, h => by simp at h
  | a :: l, b, hn, h => by
    simp only [List.map_cons, nodupB, Bool.and_eq_true, Bool.not_eq_true'] at hn
    rcases List.mem_cons.mp h with rfl | h
    · simp [loopIn, nbeq]
    · have hne : loopKey a ≠ loopKey b := fun e => by
        have : mem? (loopKey a) (l.map loopKey) = true := mem?_iff.mpr (e ▸ List.mem_map.mpr ⟨b, h, rfl⟩)
        rw [this] at hn
        cases hn.1
      simp only [loopIn, nbeq, hne, decide_false, cond_false]
      exact loopIn_mem hn.2 h

theorem lookL_mem : ∀ {L : List (Nat × (List AV → Mem → XK → R))} {k : Nat} {p : List AV → Mem → XK → R}, lookL L k = some p → (k, p) ∈ L
  | [], k, p, h => by simp [lookL] at h
  | (g, q) :: r, k, p, h => by
    simp only [lookL, nbeq] at h
    by_cases e : g = k
    · subst e; simp at h; subst h; simp
    · simp only [e, decide_false, cond_false] at h
      exact List.mem_cons_of_mem _ (lookL_mem h)

theorem only_of {C : RC} : ∀ (c : Code), (∀ b ∈ loopsOf c, ∀ p, C.loops (loopKey b) = some p → LoopOK C b p) → LoopsOnly C c
  | .seq a b, h => ⟨only_of a fun b hb => h b (by simp [loopsOf, hb]), only_of b fun b hb => h b (by simp [loopsOf, hb])⟩
  | .cond _ a b, h => ⟨only_of a fun b hb => h b (by simp [loopsOf, hb]), only_of b fun b hb => h b (by simp [loopsOf, hb])⟩
  | .block _ b, h => only_of b h
  | .loop b, h => ⟨only_of b fun c hc => h c (by simp [loopsOf, hc]), h b (by simp [loopsOf])⟩
  | .scope b, h => only_of b h
  | .skip, _ => trivial
  | .label _, _ => trivial
  | .region _ _ _, _ => trivial
  | .ret, _ => trivial
  | .rangeFunc _ _ _ _, _ => trivial
  | .goto _, _ => trivial
  | .exit _, _ => trivial
  | .refuse _, _ => trivial

theorem only_list {C : RC} {L : List (Nat × (List AV → Mem → XK → R))} {c : Code} (hC : C.loops = lookL L) (hd : nodupB ((loopsOf c).map loopKey) = true) (h : ∀ q ∈ L, LoopOK C (loopB q.1 c) q.2) : LoopsOnly C c := by
  refine only_of c fun b hb p hp => ?_
  rw [hC] at hp
  have := h _ (lookL_mem hp)
  unfold loopB at this
  rwa [loopIn_mem hd hb] at this

end X

/-- 'CallOK', closed. -/
structure COK (P : Program) (f : FuncId) (p : List AV → Mem → AK → R) : Prop where
  ok : CallOK P f p

def AllOK (P : Program) : List (Nat × (List AV → Mem → AK → R)) → Prop
  | [] => True
  | (g, p) :: r => COK P g p ∧ AllOK P r

theorem AllOK.mem {P : Program} : ∀ {l : List (Nat × (List AV → Mem → AK → R))}, AllOK P l → ∀ q ∈ l, CallOK P q.1 q.2
  | [], _, q, h => by simp at h
  | (g, p) :: r, h, q, hq => by
    rcases List.mem_cons.mp hq with rfl | hq
    · exact h.1.ok
    · exact AllOK.mem h.2 q hq

def AllL (C : X.RC) (c : Code) : List (Nat × (List AV → Mem → X.XK → R)) → Prop
  | [] => True
  | (g, p) :: r => X.LoopOK C (X.loopB g c) p ∧ AllL C c r

theorem AllL.mem {C : X.RC} {c : Code} : ∀ {l : List (Nat × (List AV → Mem → X.XK → R))}, AllL C c l → ∀ q ∈ l, X.LoopOK C (X.loopB q.1 c) q.2
  | [], _, q, h => by simp at h
  | (g, p) :: r, h, q, hq => by
    rcases List.mem_cons.mp hq with rfl | hq
    · exact h.1
    · exact AllL.mem h.2 q hq

theorem pure_cok {P : Program} {f : FuncId} {b : List AV → Mem → AK → R} {ts : List Ty} {F : Ts ts → AK → R} (hb : COK P f b)
    (h : ∀ x k r, BoundedTs ts x → F x k = some r → b (avTs ts x) [] (fun v m => opt (frz m v) fun v' => k v' []) = some r) : COK P f (pureP ts F) := ⟨pure_ok hb.ok h⟩

/-- A contract over plain data with one answer. -/
def ansP (ts : List Ty) (F : Ts ts → AV) : List AV → Mem → AK → R := pureP ts fun x k => k (F x) []

theorem ans_cok {P : Program} {f : FuncId} {b : List AV → Mem → AK → R} {ts : List Ty} {F : Ts ts → AV} (hb : COK P f b)
    (h : ∀ (x : Ts ts) (k : AK), BoundedTs ts x → b (avTs ts x) [] (fun v m => opt (frz m v) fun v' => k v' []) = k (F x) []) : COK P f (ansP ts F) :=
  pure_cok hb fun x k r hx hp => (h x k hx).trans hp

end Go.Ev

/- Small facts for walks over loops. Own work. -/
set_option linter.unusedVariables false
namespace Go.Ev
open Go

theorem lt_t {i n : Nat} (h : i < n) : decide ((i : Int) < (n : Int)) = true := by simpa using h
theorem lt_f {i n : Nat} (h : n ≤ i) : decide ((i : Int) < (n : Int)) = false := by simpa using h
theorem ix_t {a b i n : Nat} (hab : Nat.beq a b = true) (h : i < n) : (Nat.beq a b && decide ((0 : Int) ≤ (i : Int)) && decide ((i : Int) < (n : Int))) = true := by
  rw [hab]; simp [h]
theorem wrap_id {n : Int} (h0 : -9223372036854775808 ≤ n) (h1 : n ≤ 9223372036854775807) : IntKind.i64.wrap n = n := by
  unfold IntKind.wrap
  simp only [IntKind.signed, IntKind.bits]
  first
    | (rw [BitVec.toInt_ofInt]; simp only [Int.bmod]; split <;> omega)
    | (simp; omega)
theorem succ_w {i : Nat} (h : i < 9223372036854775807) : IntKind.i64.wrap ((i : Int) + 1) = ((i + 1 : Nat) : Int) := by
  rw [wrap_id (by omega) (by omega)]; omega
theorem big_lt {i n : Nat} (h : i < n) (hb : n ≤ big) : i < 9223372036854775807 := by unfold big at hb; omega
theorem getD_nth {α : Type} (xs : List α) (i : Nat) (d : α) (h : i < xs.length) : xs.getD ((i : Int).toNat) d = xs[i] := by
  simp [List.getD_eq_getElem?_getD, h]
theorem drop_nth {α : Type} (xs : List α) (i : Nat) (h : i < xs.length) : xs.drop i = xs[i] :: xs.drop (i + 1) := List.drop_eq_getElem_cons h

theorem av_int_inj {κ κ' : IntKind} {a b : Int} (h : AV.one (.int κ a) = AV.one (.int κ' b)) : a = b := by cases h; rfl
theorem av_sl_inj {τ : Ty} {a b : List τ.El} {nl nl' : Option Bool} {l l' : Option Nat} (h : AV.one (.sl τ a nl l) = AV.one (.sl τ b nl' l')) : a = b := by cases h; rfl

theorem sees_tail {α : Type} (o : Nat) (xs : List α) : (View.tail o).sees xs = xs.drop o := by cases o <;> rfl
theorem sees_sub {α : Type} (o n : Nat) (xs : List α) : (View.sub o n).sees xs = (xs.drop o).take n := rfl
theorem rec_k {τ : Ty} {f : Ty → Type} (h : τ = τ) (x : f τ) : @Eq.rec Ty τ (fun y _ => f y) x τ h = x := rfl

theorem tn1 (a : Nat) : ((a : Int) + 1).toNat = a + 1 := by omega
theorem tn2 (a b : Nat) : ((a : Int) + (b : Int)).toNat = a + b := by omega
theorem tn3 (a b : Nat) : ((a : Int) + ((b : Int) + 1)).toNat = a + (b + 1) := by omega
theorem tn4 (a b : Nat) : ((a : Int) + (b : Int) + 1).toNat = a + (b + 1) := by omega
theorem tn5 (a b : Nat) : ((a : Int) + ((b : Int) + 1) + 1).toNat = a + (b + 2) := by omega
theorem tn6 (a b c : Nat) : ((a : Int) + ((b : Int) + (c : Int))).toNat = a + (b + c) := by omega

/-- A value that nothing looks into, the kernel neither. -/
noncomputable def hide {α : Type} (a : α) : α := Classical.choose (⟨a, rfl⟩ : ∃ x, x = a)
theorem hide_eq {α : Type} (a : α) : hide a = a := Classical.choose_spec (⟨a, rfl⟩ : ∃ x, x = a)
attribute [irreducible] hide
end Go.Ev

/- From a contract to a law's row: what the call leaves alone. Own work. -/
set_option linter.unusedVariables false
namespace Go.Ev
open Go Go.ChangeShapes Go.WideShapes

/-- Nothing that was there has changed. -/
def Kept (w w' : World) : Prop := Io w w' ∧ ∀ b, b < w.heap.size → w'.heap[b]? = w.heap[b]?

theorem Kept.but {w w' : World} (h : Kept w w') (may : MemPlace → Prop) : w.keptBut w' may := by
  refine ⟨h.1.1, h.1.2, fun i hi => ?_⟩
  rw [h.2 i hi]
  cases w.heap[i]? with
  | none => trivial
  | some o =>
    cases o with
    | cells c t fr => exact ⟨rfl, rfl, rfl, fun _ _ => rfl⟩
    | map es clock => exact .inr ⟨rfl, rfl⟩
    | _ => first | rfl | trivial

theorem post_of_kept {H : Type} {enc : TypeId × Value → H} {P : Program} {f : Func} {s : ChangeSpec} {apart fresh handsOn again : Bool} {W W' : World} {args : Array Value} {v : Value} {ds gs : List (DataW H)} {before pa pv : List MemPlace}
    (hW : DataW.Whole enc P f.params.toList s.vars apart W args.toList ds gs before)
    (hres : ∀ (b : Nat) (sp : Nat → Bool) (hd : Bool), DataW.TrodAll enc P W' b sp hd f.resultTypes.toList (v.resultList f.resultTypes.size) (s.fn H (ds ++ gs)).results [])
    (hargs : ∀ sp : Nat → Bool, (∀ p ∈ before, sp p.block = true) → DataW.TrodAll enc P W' 0 sp true f.params.toList args.toList (s.fn H (ds ++ gs)).args pa)
    (hvars : ∀ sp : Nat → Bool, (∀ p ∈ before, sp p.block = true) → DataW.TrodVars enc P W' sp s.vars (s.fn H (ds ++ gs)).vars pv)
    (hps : before = pa ++ pv) (hk : Kept W W')
    (hok : ∀ (j : Nat) (t : TypeId) (r : Value), f.resultTypes[j]? = some t → (v.resultList f.resultTypes.size)[j]? = some r → Value.okWide P W' .any 0 t r) :
    s.post enc P f apart fresh handsOn again W args v W' := by
  have hold : ∀ p ∈ before, (fun b => decide (b < W.heap.size)) p.block = true := fun p hp => by simpa using hW.lt p hp
  refine ⟨ds, gs, before, [], pa, pv, hW, hres _ _ _, hargs _ hold, hvars _ hold, World.keptBut_mono (fun p hp => ⟨hp, ?_⟩) (hk.but (· ∈ before)), fun _ => ?_⟩
  · rw [hps, List.mem_append] at hp
    exact Or.inr hp
  · have hlt := hW.lt
    obtain ⟨_, _, _, _, _, hz, hn⟩ := hW
    refine ⟨hok, _, _, ([] ++ pa) ++ pv, ⟨[] ++ pa, pv, trodAll_append (hargs _ (fun _ _ => rfl)) (hres _ _ _), hvars _ (fun _ _ => rfl), rfl, ?_, ?_⟩, ?_⟩
    · intro b off hp
      have hp' : MemPlace.cell b off ∈ before := by rw [hps]; simpa using hp
      have hb : b < W.heap.size := hlt _ hp'
      have := hz b off hp'
      unfold World.frozen? at this ⊢
      rw [hk.2 b hb]
      exact this
    · intro ha
      have := hn ha
      rw [hps] at this
      simpa using this
    · intro p hp _
      rw [hps]
      simpa using hp

theorem calls_kept {P : Program} {f : FuncId} {b : List AV → Mem → AK → R} (hb : COK P f b) {w : World} {args : List AV} {vs : Array Value} (hx : RepAVs (fun b _ => b < w.heap.size) (fun _ => none) [] w args vs.toList)
    (he : ∀ w, (callFunc f vs).run P w = .ok (.enter f vs) w)
    (h : ∀ k : AK, b args [] k = k (.one (.bool true)) []) : Calls P f vs w fun e w' => e = .returned (.bool true) ∧ Kept w w' := by
  have h0 := hb.ok (sim_empty fun _ _ h => h) hx (h outK)
  unfold Runs at h0
  rw [he w] at h0
  refine Calls.mono h0 ?_
  rintro e w' ⟨v, rfl, rv, ok', μ', m', hk, hmv, hrv⟩
  have hk' : rv = .one (.bool true) := by
    simp only [outK, Option.some.injEq, Prod.mk.injEq] at hk
    exact hk.1
  subst hk'
  refine ⟨?_, hmv.io, fun b hb => hmv.keep b hb (by rintro ⟨i, ⟨o, ho, _⟩, _⟩; simp [Mem.get] at ho)⟩
  have : [v] = [.bool true] := hrv
  simp_all
end Go.Ev
