import Derived.Test.YtniigndkhlhlcaaP01
import Derived.Calls
import Derived.Laws.AppendOwn
import Derived.Laws.CopyRow
import Derived.Laws.StructEq
import Derived.Laws.BytesString
set_option linter.all false
/- The abstract evaluator: what abstract data stand for in the model's worlds; what keeps it. Own work. -/
namespace Go.Ev
open Go

/-- A value of one cell. -/
def oneC : Value → Bool
  | .agg _ | .tuple _ => false
  | _ => true

/-- The cells that nobody writes any more. -/
abbrev Ok := Nat → Nat → Prop

def cellAt (w : World) (b o : Nat) : Option Value := w.cell? ⟨b, o, none⟩

def RepAll {α : Type} (f : α → List Value → Prop) : List α → List Value → Prop
  | [], cs => cs = []
  | x :: xs, cs => ∃ c d, cs = c ++ d ∧ f x c ∧ RepAll f xs d

/-- The cells from ⟨b, o⟩ on are these, for good. -/
def AtOk (ok : Ok) (w : World) (b o : Nat) (cs : List Value) : Prop :=
  ∀ j u, cs[j]? = some u → ok b (o + j) ∧ cellAt w b (o + j) = some u

/-- How long a string or a slice may be. -/
def big : Nat := 281474976710656

def RepT (ok : Ok) (w : World) : (t : Ty) → t.El → List Value → Prop
  | .bool => fun b cs => cs = [.bool b]
  | .int k => fun n cs => cs = [.int k n]
  | .str => fun s cs => ∃ b : ByteArray, cs = [.string b] ∧ b.data.toList = s ∧ s.length ≤ big
  | .fn => fun f cs => match f with | none => cs = [.nilFunc] | some f => cs = [.func (.func f) #[] #[]]
  | .sl e => fun xs cs => ∃ a cap, cs = [.slice a xs.length cap] ∧ (xs.length ≤ cap ∧ xs.length ≤ big) ∧ (a = none → cap = 0) ∧
      (∀ ad, a = some ad → (xs = [] ∨ ad.spot = none) ∧ ∀ i (h : i < xs.length), ∃ c, RepT ok w e (xs[i]) c ∧ AtOk ok w ad.block (ad.off + i * e.width) c)
  | .ar n e => fun xs cs => xs.length = n ∧ RepAll (RepT ok w e) xs cs
  | .pair a b => fun x cs => ∃ c d, cs = c ++ d ∧ RepT ok w a x.1 c ∧ RepT ok w b x.2 d

theorem RepAll.length {α : Type} {f : α → List Value → Prop} {n : Nat} (h : ∀ x c, f x c → c.length = n) :
    ∀ {xs : List α} {cs : List Value}, RepAll f xs cs → cs.length = xs.length * n
  | [], cs, hr => by simp only [RepAll] at hr; simp [hr]
  | x :: xs, cs, hr => by
    obtain ⟨c, d, rfl, h1, h2⟩ := hr
    have := RepAll.length h h2
    simp only [List.length_append, List.length_cons, h _ _ h1, this, Nat.succ_mul]
    omega

theorem RepT.length {ok : Ok} {w : World} : ∀ {t : Ty} {x : t.El} {cs : List Value}, RepT ok w t x cs → cs.length = t.width := by
  intro t
  induction t with
  | bool => intro x cs h; simp only [RepT] at h; simp [h, Ty.width]
  | int k => intro x cs h; simp only [RepT] at h; simp [h, Ty.width]
  | str => intro x cs h; obtain ⟨b, rfl, _⟩ := h; rfl
  | fn => intro x cs h; cases x <;> (simp only [RepT] at h; simp [h, Ty.width])
  | sl e => intro x cs h; obtain ⟨a, cap, rfl, _⟩ := h; rfl
  | ar n e ih =>
    intro x cs h
    obtain ⟨hn, h⟩ := h
    have := RepAll.length (fun _ _ h => ih h) h
    rw [this, hn]; rfl
  | pair a b iha ihb =>
    intro x cs h
    obtain ⟨c, d, rfl, h1, h2⟩ := h
    simp [Ty.width, iha h1, ihb h2]

/-- What was settled stays. -/
structure Grow (ok : Ok) (w : World) (ok' : Ok) (w' : World) : Prop where
  sub : ∀ b o, ok b o → ok' b o
  cell : ∀ b o, ok b o → cellAt w' b o = cellAt w b o

theorem Grow.refl (ok : Ok) (w : World) : Grow ok w ok w := ⟨fun _ _ h => h, fun _ _ _ => rfl⟩
theorem Grow.trans {ok ok' ok'' : Ok} {w w' w'' : World} (h : Grow ok w ok' w') (h' : Grow ok' w' ok'' w'') : Grow ok w ok'' w'' :=
  ⟨fun _ _ x => h'.sub _ _ (h.sub _ _ x), fun _ _ x => (h'.cell _ _ (h.sub _ _ x)).trans (h.cell _ _ x)⟩

theorem RepAll.mono {α : Type} {f g : α → List Value → Prop} (h : ∀ x c, f x c → g x c) : ∀ {xs : List α} {cs : List Value}, RepAll f xs cs → RepAll g xs cs
  | [], _, hr => hr
  | _ :: _, _, ⟨c, d, e, h1, h2⟩ => ⟨c, d, e, h _ _ h1, RepAll.mono h h2⟩

theorem AtOk.mono {ok ok' : Ok} {w w' : World} (hg : Grow ok w ok' w') {b o : Nat} {cs : List Value} (h : AtOk ok w b o cs) : AtOk ok' w' b o cs :=
  fun j u hj => let ⟨h1, h2⟩ := h j u hj; ⟨hg.sub _ _ h1, (hg.cell _ _ h1).trans h2⟩

theorem RepT.mono {ok ok' : Ok} {w w' : World} (hg : Grow ok w ok' w') : ∀ {t : Ty} {x : t.El} {cs : List Value}, RepT ok w t x cs → RepT ok' w' t x cs := by
  intro t
  induction t with
  | bool => intro x cs h; exact h
  | int k => intro x cs h; exact h
  | str => intro x cs h; exact h
  | fn => intro x cs h; exact h
  | sl e ih =>
    intro x cs h
    obtain ⟨a, cap, h1, h2, h3, h4⟩ := h
    refine ⟨a, cap, h1, h2, h3, fun ad had => ⟨(h4 ad had).1, fun i hi => ?_⟩⟩
    obtain ⟨c, hc, hat⟩ := (h4 ad had).2 i hi
    exact ⟨c, ih hc, hat.mono hg⟩
  | ar n e ih =>
    intro x cs h
    exact ⟨h.1, RepAll.mono (fun _ _ h => ih h) h.2⟩
  | pair a b iha ihb =>
    intro x cs h
    obtain ⟨c, d, e, h1, h2⟩ := h
    exact ⟨c, d, e, iha h1, ihb h2⟩

/-- Where an object lies: block, first cell, how many cells the block has; 'none': an empty array without a block. -/
abbrev Place := Option (Nat × Nat × Nat)
abbrev Mu := Nat → Option Place

def RepRef (μ : Mu) (id wd n off len : Nat) (lim : Option Nat) (v : Value) : Prop :=
  ∃ a cap, v = .slice a len cap ∧ off + len ≤ n ∧ len ≤ cap ∧ (∀ c, lim = some c → cap = c) ∧ (lim = none → n ≤ off + cap) ∧
    ((∃ B base sz, μ id = some (some (B, base, sz)) ∧ a = some ⟨B, base + off * wd, none⟩ ∧ base + (off + cap) * wd ≤ sz) ∨ (len = 0 ∧ cap = 0))

def RepPtr (μ : Mu) (id : Nat) (v : Value) : Prop := ∃ B base sz, μ id = some (some (B, base, sz)) ∧ v = .pointer (some ⟨B, base, none⟩)
def RepPtrs (μ : Mu) : List Nat → List Value → Prop
  | [], vs => vs = []
  | i :: r, vs => ∃ v s, vs = v :: s ∧ RepPtr μ i v ∧ RepPtrs μ r s

def ixOff : Option (Nat × Nat × Nat) → Nat
  | none => 0
  | some (i, w, s) => i * w + s

theorem View.len_eq {α : Type} (v : View) (xs : List α) : v.len xs = v.lenN xs.length := by
  cases v with
  | tail o => cases o <;> rfl
  | sub o k => rfl

def RepL (ok : Ok) (μ : Mu) (m : Mem) (w : World) : Leaf → List Value → Prop
  | .undef, cs => ∃ v, cs = [v] ∧ oneC v = true
  | .bool b, cs => cs = [.bool b]
  | .int k n, cs => cs = [.int k n]
  | .str s, cs => ∃ b : ByteArray, cs = [.string b] ∧ b.data.toList = s ∧ s.length ≤ big
  | .fn f first cap, cs => ∃ a b, cs = [.func (.func f) a b] ∧ RepPtrs μ first a.toList ∧ RepPtrs μ cap b.toList
  | .nilfn, cs => cs = [.nilFunc]
  | .sl τ xs nl lim, cs => RepT ok w (.sl τ) xs cs ∧ ∃ a n cap, cs = [.slice a n cap] ∧ (nl = some true → a = none) ∧ (nl = some false → a ≠ none) ∧ (∀ c, lim = some c → cap = c)
  | .nilsl, cs => cs = [.slice none 0 0]
  | .ar n τ xs, cs => RepT ok w (.ar n τ) xs cs
  | .ref id v lim, cs => ∃ u, cs = [u] ∧ μ id ≠ none ∧ (match (m.get id).bind Obj.row with
      | some (wd, n) => RepRef μ id wd n v.off (v.lenN n) lim u
      | none => ∃ a l c, u = .slice a l c)
  | .ptr id off ix, cs => ∃ B base sz, μ id = some (some (B, base, sz)) ∧ cs = [.pointer (some ⟨B, base + off + ixOff ix, none⟩)]
  | .cptr τ x off, cs => ∃ B o c, cs = [.pointer (some ⟨B, o + off, none⟩)] ∧ RepT ok w τ x c ∧ AtOk ok w B o c
  | .nilptr, cs => cs = [.pointer none]
  | .map id, cs => ∃ B base sz, μ id = some (some (B, base, sz)) ∧ cs = [.map (some B)]
  | .nilmap, cs => cs = [.map none]

abbrev RepLs (ok : Ok) (μ : Mu) (m : Mem) (w : World) : List Leaf → List Value → Prop := RepAll (RepL ok μ m w)

theorem RepL.length {ok : Ok} {μ : Mu} {m : Mem} {w : World} {l : Leaf} {cs : List Value} (h : RepL ok μ m w l cs) : cs.length = l.width := by
  cases l with
  | undef => obtain ⟨v, rfl, _⟩ := h; rfl
  | str s => obtain ⟨b, rfl, _⟩ := h; rfl
  | fn f a b => obtain ⟨_, _, rfl, _⟩ := h; rfl
  | sl τ xs nl lim => obtain ⟨h, _⟩ := h; exact h.length
  | ar n τ xs => exact RepT.length h
  | ref id v lim => obtain ⟨u, rfl, _⟩ := h; rfl
  | ptr id off ix => obtain ⟨_, _, _, _, rfl⟩ := h; rfl
  | cptr τ x off => obtain ⟨_, _, _, rfl, _⟩ := h; rfl
  | map id => obtain ⟨_, _, _, _, rfl⟩ := h; rfl
  | _ => simp only [RepL] at h; subst h; rfl

theorem RepLs.length {ok : Ok} {μ : Mu} {m : Mem} {w : World} : ∀ {ls : List Leaf} {cs : List Value}, RepLs ok μ m w ls cs → cs.length = widths ls
  | [], cs, h => by simp only [RepLs, RepAll] at h; simp [h, widths]
  | l :: ls, cs, ⟨c, d, e, h1, h2⟩ => by rw [e, List.length_append, RepL.length h1, RepLs.length h2]; rfl

def RepV (ok : Ok) (μ : Mu) (m : Mem) (w : World) : V → Value → Prop
  | .one l, v => RepL ok μ m w l [v]
  | .agg ls, v => ∃ cs, v = .agg cs ∧ RepLs ok μ m w ls cs.toList

def RepVs (ok : Ok) (μ : Mu) (m : Mem) (w : World) : List V → List Value → Prop
  | [], vs => vs = []
  | x :: xs, vs => ∃ v s, vs = v :: s ∧ RepV ok μ m w x v ∧ RepVs ok μ m w xs s

def RepAV (ok : Ok) (μ : Mu) (m : Mem) (w : World) : AV → Value → Prop
  | .val x, v => RepV ok μ m w x v
  | .tup xs, v => ∃ vs, v = .tuple vs ∧ RepVs ok μ m w xs vs.toList
  | .skip, v => v = .tuple #[]
  | .any, _ => True

def RepAVs (ok : Ok) (μ : Mu) (m : Mem) (w : World) : List AV → List Value → Prop
  | [], vs => vs = []
  | x :: xs, vs => ∃ v s, vs = v :: s ∧ RepAV ok μ m w x v ∧ RepAVs ok μ m w xs s

/-- Objects keep their kind and their length, or are not looked at again. -/
def Shape (o o' : Obj) : Prop :=
  o' = .dead ∨ (match o, o' with
    | .box _ _, .box _ _ => True
    | .arr τ xs _, .arr σ ys _ => τ = σ ∧ xs.length = ys.length
    | .raw w xs, .raw w' ys => w = w' ∧ xs.length = ys.length
    | .map _ _ _ _, .map _ _ _ _ => True
    | _, _ => False)

theorem Shape.refl (o : Obj) : Shape o o := by cases o <;> simp [Shape]
theorem Shape.trans {a b c : Obj} (h : Shape a b) (h' : Shape b c) : Shape a c := by
  rcases h' with h' | h'
  · exact .inl h'
  · rcases h with rfl | h
    · cases c <;> simp at h'
    · refine .inr ?_
      cases a <;> cases b <;> simp at h <;> cases c <;> simp at h' ⊢
      · exact ⟨h.1.trans h'.1, h.2.trans h'.2⟩
      · exact ⟨h.1.trans h'.1, h.2.trans h'.2⟩
theorem Shape.row {o o' : Obj} (h : Shape o o') : o'.row = o.row ∨ o'.row = none := by
  rcases h with rfl | h
  · exact .inr rfl
  · cases o <;> cases o' <;> simp at h <;> simp [Obj.row, h]

structure Step (ok : Ok) (μ : Mu) (m : Mem) (w : World) (ok' : Ok) (μ' : Mu) (m' : Mem) (w' : World) : Prop where
  grow : Grow ok w ok' w'
  mu : ∀ id pl, μ id = some pl → μ' id = some pl
  shape : ∀ id o, m.get id = some o → ∃ o', m'.get id = some o' ∧ Shape o o'

theorem Step.refl (ok : Ok) (μ : Mu) (m : Mem) (w : World) : Step ok μ m w ok μ m w :=
  ⟨Grow.refl _ _, fun _ _ h => h, fun _ o h => ⟨o, h, Shape.refl o⟩⟩
theorem Step.trans {ok ok' ok'' : Ok} {μ μ' μ'' : Mu} {m m' m'' : Mem} {w w' w'' : World} (h : Step ok μ m w ok' μ' m' w') (h' : Step ok' μ' m' w' ok'' μ'' m'' w'') :
    Step ok μ m w ok'' μ'' m'' w'' :=
  ⟨h.grow.trans h'.grow, fun id pl x => h'.mu id pl (h.mu id pl x), fun id o x => by
    obtain ⟨o', h1, s1⟩ := h.shape id o x
    obtain ⟨o'', h2, s2⟩ := h'.shape id o' h1
    exact ⟨o'', h2, s1.trans s2⟩⟩

section step
variable {ok ok' : Ok} {μ μ' : Mu} {m m' : Mem} {w w' : World}

theorem RepRef.mu (hmu : ∀ id pl, μ id = some pl → μ' id = some pl) {id wd n off len : Nat} {lim : Option Nat} {v : Value} (h : RepRef μ id wd n off len lim v) :
    RepRef μ' id wd n off len lim v := by
  obtain ⟨a, cap, h1, h2, h3, h4, h5, h6⟩ := h
  refine ⟨a, cap, h1, h2, h3, h4, h5, h6.imp ?_ (fun x => x)⟩
  rintro ⟨B, base, sz, hm, ha⟩
  exact ⟨B, base, sz, hmu _ _ hm, ha⟩

theorem RepPtrs.mu (hmu : ∀ id pl, μ id = some pl → μ' id = some pl) : ∀ {ids : List Nat} {vs : List Value}, RepPtrs μ ids vs → RepPtrs μ' ids vs
  | [], _, h => h
  | _ :: _, _, ⟨v, s, e, ⟨B, base, sz, hm, hv⟩, h2⟩ => ⟨v, s, e, ⟨B, base, sz, hmu _ _ hm, hv⟩, RepPtrs.mu hmu h2⟩

theorem RepRef.slice {id wd n off len : Nat} {lim : Option Nat} {v : Value} (h : RepRef μ id wd n off len lim v) : ∃ a l c, v = .slice a l c := by
  obtain ⟨a, cap, h1, _⟩ := h; exact ⟨a, len, cap, h1⟩

theorem RepL.step (hs : Step ok μ m w ok' μ' m' w') {l : Leaf} {cs : List Value} (h : RepL ok μ m w l cs) (hd : ∀ id v lim, l = .ref id v lim → (m.get id).isSome) :
    RepL ok' μ' m' w' l cs := by
  cases l with
  | fn f a b =>
    obtain ⟨x, y, e, h1, h2⟩ := h
    exact ⟨x, y, e, h1.mu hs.mu, h2.mu hs.mu⟩
  | sl τ xs nl lim => exact ⟨h.1.mono hs.grow, h.2⟩
  | ar n τ xs => exact RepT.mono hs.grow h
  | ref id v lim =>
    obtain ⟨u, e, hm, h⟩ := h
    have hdom := hd id v lim rfl
    obtain ⟨o, ho⟩ := Option.isSome_iff_exists.mp hdom
    obtain ⟨o', ho', hsh⟩ := hs.shape id o ho
    refine ⟨u, e, ?_, ?_⟩
    · cases hμ : μ id with
      | none => exact absurd hμ hm
      | some pl => rw [hs.mu _ _ hμ]; simp
    · simp only [ho, Option.bind_some] at h
      simp only [ho', Option.bind_some]
      rcases hsh.row with hr | hr
      · rw [hr]
        cases hro : o.row with
        | none => simpa [hro] using h
        | some p => simp only [hro] at h ⊢; exact h.mu hs.mu
      · rw [hr]
        cases hro : o.row with
        | none => simpa [hro] using h
        | some p => simp only [hro] at h; exact h.slice
  | ptr id off ix => obtain ⟨B, base, sz, hm, e⟩ := h; exact ⟨B, base, sz, hs.mu _ _ hm, e⟩
  | cptr τ x off => obtain ⟨B, o, c, e, h1, h2⟩ := h; exact ⟨B, o, c, e, h1.mono hs.grow, h2.mono hs.grow⟩
  | map id => obtain ⟨B, base, sz, hm, e⟩ := h; exact ⟨B, base, sz, hs.mu _ _ hm, e⟩
  | _ => exact h

end step
end Go.Ev

/- The abstract evaluator: an abstract memory beside a world; how both go on. Own work. -/
set_option linter.unusedSimpArgs false
set_option linter.unusedVariables false
namespace Go.Ev
open Go

def Obj.isDead : Obj → Bool
  | .dead => true
  | _ => false

/-- No cell of the row is frozen. -/
def Free (fz : Nat × Nat) (n : Nat) : Prop := fz.2 = 0 ∨ n ≤ fz.1
/-- .. nor marked as a string's bytes, if it holds no bytes. -/
def FreeT (τ : Ty) (fz : Nat × Nat) (n : Nat) : Prop := fz.2 = 0 ∨ (n ≤ fz.1 ∧ τ = .int .u8)
theorem FreeT.free {τ : Ty} {fz : Nat × Nat} {n : Nat} (h : FreeT τ fz n) : Free fz n := h.imp (fun h => h) (fun h => h.1)

def RepEnts (ok : Ok) (w : World) (κ τ : Ty) : List (κ.El × τ.El) → List MapEntry → Prop
  | [], es => es = []
  | (k, v) :: r, es => ∃ e s, es = e :: s ∧ RepT ok w κ k [e.key] ∧ RepT ok w τ v e.val.cells.toList ∧ aggV e.val = τ.isAgg ∧ RepEnts ok w κ τ r s

/-- The first cells of elements in a row. -/
def RowAt (ok : Ok) (w : World) (τ : Ty) (xs : List τ.El) (c : Array Value) (base : Nat) : Prop :=
  ∀ i (h : i < xs.length), ∃ cs, RepT ok w τ (xs[i]) cs ∧ ∀ j u, cs[j]? = some u → c[base + i * τ.width + j]? = some u

/-- What lies behind: up to the block's end, elements of the same kind. -/
def Spare (ok : Ok) (w : World) (τ : Ty) (c : Array Value) (b : Nat) : Prop :=
  ∃ ys : List τ.El, b + ys.length * τ.width = c.size ∧ RowAt ok w τ ys c b

def ObjRep (ok : Ok) (μ : Mu) (m : Mem) (w : World) (id : Nat) : Obj → Prop
  | .box _ ls => ∃ B sz c E fz, μ id = some (some (B, 0, sz)) ∧ w.heap[B]? = some (.cells c E fz) ∧ c.size = sz ∧ Free fz sz ∧
      RepLs ok μ m w ls c.toList ∧ (∀ o, ¬ ok B o)
  | .arr τ xs ro => (0 < τ.width ∧ xs.length ≤ big) ∧ ((μ id = some none ∧ xs = []) ∨ ∃ B base sz c E fz, μ id = some (some (B, base, sz)) ∧ w.heap[B]? = some (.cells c E fz) ∧ c.size = sz ∧ FreeT τ fz sz ∧
      base + xs.length * τ.width ≤ sz ∧ RowAt ok w τ xs c base ∧ (∀ o, ok B o → ro = true ∧ o < base + xs.length * τ.width) ∧ Spare ok w τ c (base + xs.length * τ.width))
  | .raw wd els => ∃ B sz c E fz, μ id = some (some (B, 0, sz)) ∧ w.heap[B]? = some (.cells c E fz) ∧ c.size = sz ∧ Free fz sz ∧
      RepAll (fun l cs => RepLs ok μ m w l cs ∧ cs.length = wd) els c.toList ∧ (∀ o, ¬ ok B o)
  | .map _ κ τ es => ∃ B sz ents clock, μ id = some (some (B, 0, sz)) ∧ w.heap[B]? = some (.map ents clock) ∧ RepEnts ok w κ τ es ents.toList
  | .dead => True

def Live (m : Mem) (id : Nat) : Prop := ∃ o, m.get id = some o ∧ o.isDead = false
def Blk (μ : Mu) (id B : Nat) : Prop := ∃ base sz, μ id = some (some (B, base, sz))

structure Sim (ok : Ok) (μ : Mu) (m : Mem) (w : World) : Prop where
  dom : ∀ id, (m.get id).isSome = true ↔ μ id ≠ none
  objs : ∀ id o, m.get id = some o → ObjRep ok μ m w id o
  sep : ∀ id id' B, Live m id → Live m id' → Blk μ id B → Blk μ id' B → id = id'
  okb : ∀ b o, ok b o → b < w.heap.size
  blk : ∀ id B, Blk μ id B → B < w.heap.size

theorem Sim.get {ok : Ok} {μ : Mu} {m : Mem} {w : World} (h : Sim ok μ m w) {id : Nat} {pl : Place} (hm : μ id = some pl) : ∃ o, m.get id = some o :=
  Option.isSome_iff_exists.mp ((h.dom id).mpr (by simp [hm]))

theorem RepL.step' {ok ok' : Ok} {μ μ' : Mu} {m m' : Mem} {w w' : World} (hS : Sim ok μ m w) (hs : Step ok μ m w ok' μ' m' w') {l : Leaf} {cs : List Value} (h : RepL ok μ m w l cs) :
    RepL ok' μ' m' w' l cs := by
  refine RepL.step hs h ?_
  rintro id v lim rfl
  obtain ⟨u, _, hm, _⟩ := h
  exact (hS.dom id).mpr hm

section
variable {ok ok' : Ok} {μ μ' : Mu} {m m' : Mem} {w w' : World}

theorem RepLs.step' (hS : Sim ok μ m w) (hs : Step ok μ m w ok' μ' m' w') {ls : List Leaf} {cs : List Value} (h : RepLs ok μ m w ls cs) : RepLs ok' μ' m' w' ls cs :=
  RepAll.mono (fun _ _ h => RepL.step' hS hs h) h
theorem RepV.step' (hS : Sim ok μ m w) (hs : Step ok μ m w ok' μ' m' w') {x : V} {v : Value} (h : RepV ok μ m w x v) : RepV ok' μ' m' w' x v := by
  cases x with
  | one l => exact RepL.step' hS hs h
  | agg ls => obtain ⟨cs, e, h⟩ := h; exact ⟨cs, e, h.step' hS hs⟩
theorem RepVs.step' (hS : Sim ok μ m w) (hs : Step ok μ m w ok' μ' m' w') : ∀ {xs : List V} {vs : List Value}, RepVs ok μ m w xs vs → RepVs ok' μ' m' w' xs vs
  | [], _, h => h
  | _ :: _, _, ⟨v, s, e, h1, h2⟩ => ⟨v, s, e, h1.step' hS hs, RepVs.step' hS hs h2⟩
theorem RepAV.step' (hS : Sim ok μ m w) (hs : Step ok μ m w ok' μ' m' w') {x : AV} {v : Value} (h : RepAV ok μ m w x v) : RepAV ok' μ' m' w' x v := by
  cases x with
  | val x => exact RepV.step' hS hs h
  | tup xs => obtain ⟨vs, e, h⟩ := h; exact ⟨vs, e, h.step' hS hs⟩
  | skip => exact h
  | any => trivial
theorem RepAVs.step' (hS : Sim ok μ m w) (hs : Step ok μ m w ok' μ' m' w') : ∀ {xs : List AV} {vs : List Value}, RepAVs ok μ m w xs vs → RepAVs ok' μ' m' w' xs vs
  | [], _, h => h
  | _ :: _, _, ⟨v, s, e, h1, h2⟩ => ⟨v, s, e, h1.step' hS hs, RepAVs.step' hS hs h2⟩

theorem RepEnts.mono (hg : Grow ok w ok' w') {κ τ : Ty} : ∀ {es : List (κ.El × τ.El)} {s : List MapEntry}, RepEnts ok w κ τ es s → RepEnts ok' w' κ τ es s
  | [], _, h => h
  | (_, _) :: _, _, ⟨e, s, h, h1, h2, h2', h3⟩ => ⟨e, s, h, h1.mono hg, h2.mono hg, h2', RepEnts.mono hg h3⟩
theorem RowAt.mono (hg : Grow ok w ok' w') {τ : Ty} {xs : List τ.El} {c : Array Value} {base : Nat} (h : RowAt ok w τ xs c base) : RowAt ok' w' τ xs c base :=
  fun i hi => let ⟨cs, h1, h2⟩ := h i hi; ⟨cs, h1.mono hg, h2⟩
theorem Spare.mono (hg : Grow ok w ok' w') {τ : Ty} {c : Array Value} {b : Nat} (h : Spare ok w τ c b) : Spare ok' w' τ c b :=
  let ⟨ys, h1, h2⟩ := h; ⟨ys, h1, h2.mono hg⟩
theorem Spare.same {τ : Ty} {c c' : Array Value} {b : Nat} (h : Spare ok w τ c b) (hs : c'.size = c.size) (hc : ∀ p, b ≤ p → c'[p]? = c[p]?) : Spare ok w τ c' b := by
  obtain ⟨ys, h1, h2⟩ := h
  refine ⟨ys, by rw [hs]; exact h1, fun i hi => ?_⟩
  obtain ⟨cs, ha, hb⟩ := h2 i hi
  exact ⟨cs, ha, fun j u hj => by rw [hc _ (by omega)]; exact hb j u hj⟩

/-- An object that nobody touched. -/
theorem ObjRep.step (hS : Sim ok μ m w) (hs : Step ok μ m w ok' μ' m' w') {id : Nat} {o : Obj} (ho : ObjRep ok μ m w id o)
    (hb : ∀ B, Blk μ id B → w'.heap[B]? = w.heap[B]? ∧ ∀ p, ok' B p → ok B p) : ObjRep ok' μ' m' w' id o := by
  cases o with
  | box ro ls =>
    obtain ⟨B, sz, c, E, fz, h1, h2, h3, h4, h5, h6⟩ := ho
    obtain ⟨hh, hok⟩ := hb B ⟨0, sz, h1⟩
    exact ⟨B, sz, c, E, fz, hs.mu _ _ h1, hh.trans h2, h3, h4, h5.step' hS hs, fun p hp => h6 p (hok p hp)⟩
  | arr τ xs ro =>
    refine ⟨ho.1, ho.2.imp (fun h => ⟨hs.mu _ _ h.1, h.2⟩) ?_⟩
    rintro ⟨B, base, sz, c, E, fz, h1, h2, h3, h4, h5, h6, h7, h8⟩
    obtain ⟨hh, hok⟩ := hb B ⟨base, sz, h1⟩
    exact ⟨B, base, sz, c, E, fz, hs.mu _ _ h1, hh.trans h2, h3, h4, h5, h6.mono hs.grow, fun p hp => h7 p (hok p hp), h8.mono hs.grow⟩
  | raw wd els =>
    obtain ⟨B, sz, c, E, fz, h1, h2, h3, h4, h6, h7⟩ := ho
    obtain ⟨hh, hok⟩ := hb B ⟨0, sz, h1⟩
    exact ⟨B, sz, c, E, fz, hs.mu _ _ h1, hh.trans h2, h3, h4, RepAll.mono (fun _ _ h => ⟨RepLs.step' hS hs h.1, h.2⟩) h6, fun p hp => h7 p (hok p hp)⟩
  | map ro κ τ es =>
    obtain ⟨B, sz, ents, clock, h1, h2, h3⟩ := ho
    obtain ⟨hh, _⟩ := hb B ⟨0, sz, h1⟩
    exact ⟨B, sz, ents, clock, hs.mu _ _ h1, hh.trans h2, h3.mono hs.grow⟩
  | dead => trivial

end

/-! ### what has become of the world since a call began -/
structure Ghost where
  ok : Ok
  μ : Mu
  m : Mem
  w : World

def Ghost.own (g : Ghost) (B : Nat) : Prop := ∃ id, Live g.m id ∧ Blk g.μ id B

structure Since (g : Ghost) (ok : Ok) (μ : Mu) (m : Mem) (w : World) : Prop where
  step : Step g.ok g.μ g.m g.w ok μ m w
  size : g.w.heap.size ≤ w.heap.size
  own : ∀ id B, Live m id → Blk μ id B → g.own B ∨ g.w.heap.size ≤ B
  keep : ∀ b, b < g.w.heap.size → ¬ g.own b → w.heap[b]? = g.w.heap[b]?
  okn : ∀ b o, ok b o → g.ok b o ∨ g.own b ∨ g.w.heap.size ≤ b

theorem Since.start {ok : Ok} {μ : Mu} {m : Mem} {w : World} : Since ⟨ok, μ, m, w⟩ ok μ m w :=
  ⟨Step.refl _ _ _ _, Nat.le_refl _, fun id _ h h' => .inl ⟨id, h, h'⟩, fun _ _ _ => rfl, fun _ _ h => .inl h⟩

/-- Nothing of the outside has changed. -/
def Io (w w' : World) : Prop := w'.os = w.os ∧ w'.output = w.output

/-- One step on: what it owed. -/
structure Move (ok : Ok) (μ : Mu) (m : Mem) (w : World) (ok' : Ok) (μ' : Mu) (m' : Mem) (w' : World) : Prop where
  sim : Sim ok' μ' m' w'
  step : Step ok μ m w ok' μ' m' w'
  size : w.heap.size ≤ w'.heap.size
  own : ∀ id B, Live m' id → Blk μ' id B → (∃ id', Live m id' ∧ Blk μ id' B) ∨ w.heap.size ≤ B
  keep : ∀ b, b < w.heap.size → (¬ ∃ id, Live m id ∧ Blk μ id b) → w'.heap[b]? = w.heap[b]?
  okn : ∀ b o, ok' b o → ok b o ∨ (∃ id, Live m id ∧ Blk μ id b) ∨ w.heap.size ≤ b
  io : Io w w'

theorem Move.refl {ok : Ok} {μ : Mu} {m : Mem} {w : World} (h : Sim ok μ m w) : Move ok μ m w ok μ m w :=
  ⟨h, Step.refl _ _ _ _, Nat.le_refl _, fun id _ h h' => .inl ⟨id, h, h'⟩, fun _ _ _ => rfl, fun _ _ h => .inl h, ⟨rfl, rfl⟩⟩

theorem Move.trans {ok ok' ok'' : Ok} {μ μ' μ'' : Mu} {m m' m'' : Mem} {w w' w'' : World} (h : Move ok μ m w ok' μ' m' w') (h' : Move ok' μ' m' w' ok'' μ'' m'' w'') :
    Move ok μ m w ok'' μ'' m'' w'' := by
  refine ⟨h'.sim, h.step.trans h'.step, Nat.le_trans h.size h'.size, ?_, ?_, ?_, h'.io.1.trans h.io.1, h'.io.2.trans h.io.2⟩
  · intro id B hl hb
    rcases h'.own id B hl hb with ⟨i, hi, hi'⟩ | hge
    · exact h.own i B hi hi'
    · exact .inr (Nat.le_trans h.size hge)
  · intro b hb hn
    rw [h'.keep b (Nat.lt_of_lt_of_le hb h.size) ?_, h.keep b hb hn]
    rintro ⟨i, hi, hi'⟩
    rcases h.own i b hi hi' with h1 | h1
    · exact hn h1
    · omega
  · intro b o ho
    rcases h'.okn b o ho with h1 | ⟨i, hi, hi'⟩ | h1
    · exact h.okn b o h1
    · rcases h.own i b hi hi' with h2 | h2
      · exact .inr (.inl h2)
      · exact .inr (.inr h2)
    · exact .inr (.inr (Nat.le_trans h.size h1))

theorem Since.move {g : Ghost} {ok ok' : Ok} {μ μ' : Mu} {m m' : Mem} {w w' : World} (h : Since g ok μ m w) (h' : Move ok μ m w ok' μ' m' w') : Since g ok' μ' m' w' := by
  refine ⟨h.step.trans h'.step, Nat.le_trans h.size h'.size, ?_, ?_, ?_⟩
  · intro id B hl hb
    rcases h'.own id B hl hb with ⟨i, hi, hi'⟩ | hge
    · exact h.own i B hi hi'
    · exact .inr (Nat.le_trans h.size hge)
  · intro b hb hn
    rw [h'.keep b (Nat.lt_of_lt_of_le hb h.size) ?_, h.keep b hb hn]
    rintro ⟨i, hi, hi'⟩
    rcases h.own i b hi hi' with h1 | h1
    · exact hn h1
    · omega
  · intro b o ho
    rcases h'.okn b o ho with h1 | ⟨i, hi, hi'⟩ | h1
    · exact h.okn b o h1
    · rcases h.own i b hi hi' with h2 | h2
      · exact .inr (.inl h2)
      · exact .inr (.inr h2)
    · exact .inr (.inr (Nat.le_trans h.size h1))

/-! ### moves -/
theorem nbeq (a b : Nat) : Nat.beq a b = decide (a = b) := by
  by_cases h : a = b
  · simp [h]
  · cases hb : Nat.beq a b with
    | false => simp [h]
    | true => exact absurd (Nat.eq_of_beq_eq_true hb) h

theorem Mem.get_set (m : Mem) (id id' : Nat) (o : Obj) : (m.set id o).get id' = if id = id' then some o else m.get id' := by
  induction m with
  | nil =>
    by_cases h : id = id' <;> simp [Mem.set, Mem.get, nbeq, h]
  | cons p r ih =>
    obtain ⟨i, q⟩ := p
    simp only [Mem.set, nbeq]
    by_cases hi : i = id
    · subst hi
      by_cases h : i = id' <;> simp [Mem.get, nbeq, h]
    · by_cases h : i = id'
      · subst h
        have : ¬ id = i := fun e => hi e.symm
        simp [Mem.get, nbeq, hi, this]
      · simp [Mem.get, nbeq, hi, h, ih]

theorem Mem.get_set_self (m : Mem) (id : Nat) (o : Obj) : (m.set id o).get id = some o := by simp [Mem.get_set]
theorem Mem.get_set_ne (m : Mem) {id id' : Nat} (o : Obj) (h : id ≠ id') : (m.set id o).get id' = m.get id' := by simp [Mem.get_set, h]

section
variable {ok ok' : Ok} {μ μ' : Mu} {m m' : Mem} {w w' : World}

theorem move_of (hS : Sim ok μ m w) (hst : Step ok μ m w ok' μ' m' w') (hsz : w.heap.size ≤ w'.heap.size)
    (hdom : ∀ i, (m'.get i).isSome = true ↔ μ' i ≠ none)
    (hobj : ∀ i o, m'.get i = some o → ObjRep ok' μ' m' w' i o ∨ (m.get i = some o ∧ ∀ B, Blk μ i B → w'.heap[B]? = w.heap[B]? ∧ ∀ p, ok' B p → ok B p))
    (hsep : ∀ i j B, Live m' i → Live m' j → Blk μ' i B → Blk μ' j B → i = j)
    (hokb : ∀ b o, ok' b o → b < w'.heap.size)
    (hblk : ∀ i B, Blk μ' i B → B < w'.heap.size)
    (hown : ∀ i B, Live m' i → Blk μ' i B → (∃ i', Live m i' ∧ Blk μ i' B) ∨ w.heap.size ≤ B)
    (hkeep : ∀ b, b < w.heap.size → (¬ ∃ i, Live m i ∧ Blk μ i b) → w'.heap[b]? = w.heap[b]?)
    (hokn : ∀ b o, ok' b o → ok b o ∨ (∃ i, Live m i ∧ Blk μ i b) ∨ w.heap.size ≤ b) (hio : Io w w' := by first | assumption | exact ⟨rfl, rfl⟩) : Move ok μ m w ok' μ' m' w' := by
  refine ⟨⟨hdom, ?_, hsep, hokb, hblk⟩, hst, hsz, hown, hkeep, hokn, hio⟩
  intro i o h
  rcases hobj i o h with h1 | ⟨h1, h2⟩
  · exact h1
  · exact ObjRep.step hS hst (hS.objs i o h1) h2

theorem cellAt_of_heap {b o : Nat} (h : w'.heap[b]? = w.heap[b]?) : cellAt w' b o = cellAt w b o := by simp [cellAt, World.cell?, h]

/-- Only what has nothing to do with memory has changed (a draw). -/
theorem move_draw (hS : Sim ok μ m w) (hh : w'.heap = w.heap) (hio : Io w w' := by exact ⟨rfl, rfl⟩) : Move ok μ m w ok μ m w' := by
  have hst : Step ok μ m w ok μ m w' := ⟨⟨fun _ _ h => h, fun b o _ => cellAt_of_heap (by rw [hh])⟩, fun _ _ h => h, fun _ o h => ⟨o, h, Shape.refl o⟩⟩
  refine move_of hS hst (by rw [hh]; exact Nat.le_refl _) hS.dom (fun i o h => .inr ⟨h, fun B _ => ⟨by rw [hh], fun p hp => hp⟩⟩) hS.sep ?_ ?_ ?_ ?_ ?_
  · rw [hh]; exact hS.okb
  · rw [hh]; exact hS.blk
  · exact fun i B h h' => .inl ⟨i, h, h'⟩
  · intro b _ _; rw [hh]
  · exact fun b o h => .inl h

def Mu.put (μ : Mu) (id : Nat) (pl : Place) : Mu := fun i => if i = id then some pl else μ i

theorem Mu.put_self (μ : Mu) (id : Nat) (pl : Place) : (μ.put id pl) id = some pl := by simp [Mu.put]
theorem Mu.put_ne (μ : Mu) {id i : Nat} (pl : Place) (h : i ≠ id) : (μ.put id pl) i = μ i := by simp [Mu.put, h]
theorem Blk.put_ne {id i B : Nat} {pl : Place} (h : i ≠ id) : Blk (μ.put id pl) i B ↔ Blk μ i B := by simp [Blk, Mu.put_ne μ pl h]

theorem Live.set_ne {id i : Nat} {o : Obj} (h : id ≠ i) : Live (m.set id o) i ↔ Live m i := by simp [Live, Mem.get_set_ne m o h]

theorem heap_push (o : Go.Obj) (b : Nat) (h : b < w.heap.size) (hw : w'.heap = w.heap.push o) : w'.heap[b]? = w.heap[b]? := by
  rw [hw, Array.getElem?_push]
  have : b ≠ w.heap.size := by omega
  simp [this]

theorem fresh_mu (hS : Sim ok μ m w) {id : Nat} (hid : m.get id = none) : μ id = none := by
  cases h : μ id with
  | none => rfl
  | some pl => obtain ⟨o, ho⟩ := hS.get h; rw [hid] at ho; cases ho

theorem step_alloc (hS : Sim ok μ m w) {id : Nat} (hid : m.get id = none) (o : Obj) {X : Go.Obj} (pl : Place) (hw : w'.heap = w.heap.push X) :
    Step ok μ m w ok (μ.put id pl) (m.set id o) w' := by
  have hμ := fresh_mu hS hid
  have hne : ∀ i, μ i ≠ none → i ≠ id := fun i h e => h (e ▸ hμ)
  refine ⟨⟨fun _ _ h => h, fun b p hb => cellAt_of_heap (heap_push X b (hS.okb b p hb) hw)⟩, ?_, ?_⟩
  · intro i pl h
    rw [Mu.put_ne μ _ (hne i (by simp [h]))]; exact h
  · intro i q h
    have : id ≠ i := fun e => by rw [← e, hid] at h; cases h
    exact ⟨q, by rw [Mem.get_set_ne m o this]; exact h, Shape.refl q⟩

/-- A new object in a new block. -/
theorem move_alloc (hS : Sim ok μ m w) {id : Nat} (hid : m.get id = none) {o : Obj} {X : Go.Obj} {sz : Nat} (hw : w'.heap = w.heap.push X)
    (ho : ObjRep ok (μ.put id (some (w.heap.size, 0, sz))) (m.set id o) w' id o) (hio : Io w w' := by exact ⟨rfl, rfl⟩) : Move ok μ m w ok (μ.put id (some (w.heap.size, 0, sz))) (m.set id o) w' := by
  have hμ : μ id = none := by
    cases h : μ id with
    | none => rfl
    | some pl => obtain ⟨o, ho⟩ := hS.get h; rw [hid] at ho; cases ho
  have hne : ∀ i, μ i ≠ none → i ≠ id := fun i h e => h (e ▸ hμ)
  have hst : Step ok μ m w ok (μ.put id (some (w.heap.size, 0, sz))) (m.set id o) w' := by
    refine ⟨⟨fun _ _ h => h, fun b p hb => cellAt_of_heap (heap_push X b (hS.okb b p hb) hw)⟩, ?_, ?_⟩
    · intro i pl h
      rw [Mu.put_ne μ _ (hne i (by simp [h]))]; exact h
    · intro i q h
      have : id ≠ i := fun e => by rw [← e, hid] at h; cases h
      exact ⟨q, by rw [Mem.get_set_ne m o this]; exact h, Shape.refl q⟩
  refine move_of hS hst (by rw [hw]; simp) ?_ ?_ ?_ ?_ ?_ ?_ ?_ ?_
  · intro i
    rw [Mem.get_set]
    by_cases h : id = i
    · subst h; simp [Mu.put_self]
    · rw [Mu.put_ne μ _ (fun e => h e.symm)]; simpa [h] using hS.dom i
  · intro i q h
    rw [Mem.get_set] at h
    by_cases hi : id = i
    · subst hi
      simp only [if_true, Option.some.injEq] at h
      subst h
      exact .inl ho
    · rw [if_neg hi] at h
      exact .inr ⟨h, fun B hB => ⟨heap_push X B (hS.blk i B hB) hw, fun p hp => hp⟩⟩
  · intro i j B hi hj hBi hBj
    by_cases h1 : i = id
    · subst h1
      by_cases h2 : j = i
      · exact h2.symm
      · rw [Blk.put_ne h2] at hBj
        obtain ⟨base, s, e⟩ := hBi
        rw [Mu.put_self] at e
        simp only [Option.some.injEq, Prod.mk.injEq] at e
        have := hS.blk j B hBj
        omega
    · rw [Blk.put_ne h1] at hBi
      by_cases h2 : j = id
      · subst h2
        obtain ⟨base, s, e⟩ := hBj
        rw [Mu.put_self] at e
        simp only [Option.some.injEq, Prod.mk.injEq] at e
        have := hS.blk i B hBi
        omega
      · rw [Blk.put_ne h2] at hBj
        rw [Live.set_ne (fun e => h1 e.symm)] at hi
        rw [Live.set_ne (fun e => h2 e.symm)] at hj
        exact hS.sep i j B hi hj hBi hBj
  · intro b p h; rw [hw]; simp; have := hS.okb b p h; omega
  · intro i B hB
    rw [hw]; simp only [Array.size_push]
    by_cases h1 : i = id
    · subst h1
      obtain ⟨base, s, e⟩ := hB
      rw [Mu.put_self] at e
      simp only [Option.some.injEq, Prod.mk.injEq] at e
      omega
    · rw [Blk.put_ne h1] at hB
      have := hS.blk i B hB; omega
  · intro i B hi hB
    by_cases h1 : i = id
    · subst h1
      obtain ⟨base, s, e⟩ := hB
      rw [Mu.put_self] at e
      simp only [Option.some.injEq, Prod.mk.injEq] at e
      exact .inr (by omega)
    · rw [Blk.put_ne h1] at hB
      rw [Live.set_ne (fun e => h1 e.symm)] at hi
      exact .inl ⟨i, hi, hB⟩
  · intro b hb _; exact heap_push X b hb hw
  · exact fun b p h => .inl h

theorem step_set {id : Nat} {o o' : Obj} (hid : m.get id = some o) (hsh : Shape o o') (hg : ∀ b p, ok b p → cellAt w' b p = cellAt w b p) : Step ok μ m w ok μ (m.set id o') w' := by
  refine ⟨⟨fun _ _ h => h, hg⟩, fun _ _ h => h, ?_⟩
  intro i q h
  rw [Mem.get_set]
  by_cases hi : id = i
  · subst hi; rw [hid] at h; cases h; exact ⟨o', by simp, hsh⟩
  · exact ⟨q, by simp [hi, h], Shape.refl q⟩

/-- An object gets another content, in its own block. -/
theorem move_write (hS : Sim ok μ m w) {id B : Nat} (hl : Live m id) (hB : Blk μ id B) {o o' : Obj} (hid : m.get id = some o) (hsh : Shape o o')
    (hsz : w'.heap.size = w.heap.size) (hh : ∀ b, b ≠ B → w'.heap[b]? = w.heap[b]?) (hg : ∀ p, ok B p → cellAt w' B p = cellAt w B p)
    (ho : ObjRep ok μ (m.set id o') w' id o') (hio : Io w w' := by exact ⟨rfl, rfl⟩) : Move ok μ m w ok μ (m.set id o') w' := by
  have hst : Step ok μ m w ok μ (m.set id o') w' := by
    refine ⟨⟨fun _ _ h => h, fun b p hb => ?_⟩, fun _ _ h => h, ?_⟩
    · by_cases e : b = B
      · subst e; exact hg p hb
      · exact cellAt_of_heap (hh b e)
    · intro i q h
      rw [Mem.get_set]
      by_cases hi : id = i
      · subst hi; rw [hid] at h; cases h; exact ⟨o', by simp, hsh⟩
      · exact ⟨q, by simp [hi, h], Shape.refl q⟩
  have hlive : ∀ i, Live (m.set id o') i → Live m i := by
    intro i hi
    by_cases e : id = i
    · exact e ▸ hl
    · rwa [Live.set_ne e] at hi
  refine move_of hS hst (by omega) ?_ ?_ ?_ ?_ ?_ ?_ ?_ ?_
  · intro i
    rw [Mem.get_set]
    by_cases h : id = i
    · subst h
      have := (hS.dom id).mp (by simp [hid])
      simp [this]
    · simpa [h] using hS.dom i
  · intro i q h
    rw [Mem.get_set] at h
    by_cases hi : id = i
    · subst hi
      simp only [if_true, Option.some.injEq] at h
      subst h
      exact .inl ho
    · rw [if_neg hi] at h
      by_cases hd : q.isDead = true
      · refine .inl ?_
        cases q <;> simp [Obj.isDead] at hd
        trivial
      · refine .inr ⟨h, fun B' hB' => ⟨hh B' ?_, fun p hp => hp⟩⟩
        rintro rfl
        exact hi (hS.sep id i B' hl ⟨q, h, by simpa using hd⟩ hB hB')
  · intro i j B' hi hj h1 h2
    exact hS.sep i j B' (hlive i hi) (hlive j hj) h1 h2
  · intro b p h; rw [hsz]; exact hS.okb b p h
  · intro i B' h; rw [hsz]; exact hS.blk i B' h
  · intro i B' hi h; exact .inl ⟨i, hlive i hi, h⟩
  · intro b _ hn
    refine hh b ?_
    rintro rfl
    exact hn ⟨id, hl, hB⟩
  · exact fun b p h => .inl h

/-- An object is not looked at again. -/
theorem move_dead (hS : Sim ok μ m w) {id : Nat} {o : Obj} (hid : m.get id = some o) : Move ok μ m w ok μ (m.set id .dead) w := by
  have hst : Step ok μ m w ok μ (m.set id .dead) w := by
    refine ⟨Grow.refl _ _, fun _ _ h => h, ?_⟩
    intro i q h
    rw [Mem.get_set]
    by_cases hi : id = i
    · exact ⟨.dead, by simp [hi], .inl rfl⟩
    · exact ⟨q, by simp [hi, h], Shape.refl q⟩
  have hlive : ∀ i, Live (m.set id .dead) i → Live m i ∧ i ≠ id := by
    intro i hi
    by_cases e : id = i
    · subst e
      obtain ⟨q, hq, hd⟩ := hi
      rw [Mem.get_set_self] at hq
      cases hq
      simp [Obj.isDead] at hd
    · rw [Live.set_ne e] at hi
      exact ⟨hi, fun x => e x.symm⟩
  refine move_of hS hst (Nat.le_refl _) ?_ ?_ ?_ hS.okb hS.blk ?_ (fun _ _ _ => rfl) (fun b p h => .inl h)
  · intro i
    rw [Mem.get_set]
    by_cases h : id = i
    · subst h
      have := (hS.dom id).mp (by simp [hid])
      simp [this]
    · simpa [h] using hS.dom i
  · intro i q h
    rw [Mem.get_set] at h
    by_cases hi : id = i
    · simp only [hi, if_true, Option.some.injEq] at h
      subst h
      exact .inl trivial
    · rw [if_neg hi] at h
      exact .inr ⟨h, fun B hB => ⟨rfl, fun p hp => hp⟩⟩
  · intro i j B hi hj h1 h2
    exact hS.sep i j B (hlive i hi).1 (hlive j hj).1 h1 h2
  · intro i B hi h; exact .inl ⟨i, (hlive i hi).1, h⟩

/-- A new object without a block: an empty array. -/
theorem move_empty (hS : Sim ok μ m w) {id : Nat} (hid : m.get id = none) {τ : Ty} (hw : 0 < τ.width) (ro : Bool) :
    Move ok μ m w ok (μ.put id none) (m.set id (.arr τ [] ro)) w := by
  have hμ : μ id = none := by
    cases h : μ id with
    | none => rfl
    | some pl => obtain ⟨o, ho⟩ := hS.get h; rw [hid] at ho; cases ho
  have hne : ∀ i, μ i ≠ none → i ≠ id := fun i h e => h (e ▸ hμ)
  have hst : Step ok μ m w ok (μ.put id none) (m.set id (.arr τ [] ro)) w := by
    refine ⟨Grow.refl _ _, ?_, ?_⟩
    · intro i pl h
      rw [Mu.put_ne μ _ (hne i (by simp [h]))]; exact h
    · intro i q h
      have : id ≠ i := fun e => by rw [← e, hid] at h; cases h
      exact ⟨q, by rw [Mem.get_set_ne m _ this]; exact h, Shape.refl q⟩
  have hnb : ∀ B, ¬ Blk (μ.put id none) id B := by rintro B ⟨b, s, e⟩; simp [Mu.put_self] at e
  refine move_of hS hst (Nat.le_refl _) ?_ ?_ ?_ hS.okb ?_ ?_ (fun _ _ _ => rfl) (fun b p h => .inl h)
  · intro i
    rw [Mem.get_set]
    by_cases h : id = i
    · subst h; simp [Mu.put_self]
    · rw [Mu.put_ne μ _ (fun e => h e.symm)]; simpa [h] using hS.dom i
  · intro i q h
    rw [Mem.get_set] at h
    by_cases hi : id = i
    · subst hi
      simp only [if_true, Option.some.injEq] at h
      subst h
      exact .inl ⟨⟨hw, by simp⟩, .inl ⟨Mu.put_self _ _ _, rfl⟩⟩
    · rw [if_neg hi] at h
      exact .inr ⟨h, fun B hB => ⟨rfl, fun p hp => hp⟩⟩
  · intro i j B hi hj hBi hBj
    have h1 : i ≠ id := fun e => hnb B (e ▸ hBi)
    have h2 : j ≠ id := fun e => hnb B (e ▸ hBj)
    rw [Blk.put_ne h1] at hBi
    rw [Blk.put_ne h2] at hBj
    rw [Live.set_ne (fun e => h1 e.symm)] at hi
    rw [Live.set_ne (fun e => h2 e.symm)] at hj
    exact hS.sep i j B hi hj hBi hBj
  · intro i B hB
    have h1 : i ≠ id := fun e => hnb B (e ▸ hB)
    rw [Blk.put_ne h1] at hB
    exact hS.blk i B hB
  · intro i B hi hB
    have h1 : i ≠ id := fun e => hnb B (e ▸ hB)
    rw [Blk.put_ne h1] at hB
    rw [Live.set_ne (fun e => h1 e.symm)] at hi
    exact .inl ⟨i, hi, hB⟩
/-- The cells of an array's content. -/
def rowOk (ok : Ok) (μ : Mu) (id n : Nat) : Ok := fun b o => ok b o ∨ ∃ base sz, μ id = some (some (b, base, sz)) ∧ base ≤ o ∧ o < base + n

/-- An array is only read from now on. -/
theorem move_ro (hS : Sim ok μ m w) {id : Nat} {τ : Ty} {xs : List τ.El} {ro : Bool} (hid : m.get id = some (.arr τ xs ro)) :
    Move ok μ m w (rowOk ok μ id (xs.length * τ.width)) μ (m.set id (.arr τ xs true)) w := by
  have hl : Live m id := ⟨_, hid, rfl⟩
  have hst : Step ok μ m w (rowOk ok μ id (xs.length * τ.width)) μ (m.set id (.arr τ xs true)) w := by
    refine ⟨⟨fun b o h => .inl h, fun _ _ _ => rfl⟩, fun _ _ h => h, ?_⟩
    intro i q h
    rw [Mem.get_set]
    by_cases hi : id = i
    · subst hi; rw [hid] at h; cases h; exact ⟨.arr τ xs true, by simp, .inr ⟨rfl, rfl⟩⟩
    · exact ⟨q, by simp [hi, h], Shape.refl q⟩
  have hlive : ∀ i, Live (m.set id (.arr τ xs true)) i → Live m i := by
    intro i hi
    by_cases e : id = i
    · exact e ▸ hl
    · rwa [Live.set_ne e] at hi
  have hoth : ∀ i B, Live m i → i ≠ id → Blk μ i B → ∀ p, rowOk ok μ id (xs.length * τ.width) B p → ok B p := by
    rintro i B hi hne hB p (h | ⟨base, sz, h, _⟩)
    · exact h
    · exact absurd (hS.sep i id B hi hl hB ⟨base, sz, h⟩) hne
  refine move_of hS hst (Nat.le_refl _) ?_ ?_ ?_ ?_ hS.blk ?_ (fun _ _ _ => rfl) ?_
  · intro i
    rw [Mem.get_set]
    by_cases h : id = i
    · subst h
      have := (hS.dom id).mp (by simp [hid])
      simp [this]
    · simpa [h] using hS.dom i
  · intro i q h
    rw [Mem.get_set] at h
    by_cases hi : id = i
    · subst hi
      simp only [if_true, Option.some.injEq] at h
      subst h
      refine .inl ?_
      obtain ⟨h0, h1⟩ := hS.objs id _ hid
      refine ⟨h0, h1.imp (fun x => x) ?_⟩
      rintro ⟨B, base, sz, c, E, fz, e1, e2, e3, e4, e5, e6, e7, e8⟩
      refine ⟨B, base, sz, c, E, fz, e1, e2, e3, e4, e5, e6.mono hst.grow, ?_, e8.mono hst.grow⟩
      rintro p (h | ⟨base', sz', h, h'⟩)
      · exact ⟨rfl, (e7 p h).2⟩
      · rw [e1] at h
        simp only [Option.some.injEq, Prod.mk.injEq] at h
        exact ⟨rfl, by omega⟩
    · rw [if_neg hi] at h
      by_cases hd : q.isDead = true
      · refine .inl ?_
        cases q <;> simp [Obj.isDead] at hd
        trivial
      · exact .inr ⟨h, fun B hB => ⟨rfl, hoth i B ⟨q, h, by simpa using hd⟩ (fun e => hi e.symm) hB⟩⟩
  · intro i j B hi hj h1 h2
    exact hS.sep i j B (hlive i hi) (hlive j hj) h1 h2
  · rintro b o (h | ⟨base, sz, h, _⟩)
    · exact hS.okb b o h
    · exact hS.blk id b ⟨base, sz, h⟩
  · intro i B hi h; exact .inl ⟨i, hlive i hi, h⟩
  · rintro b o (h | ⟨base, sz, h, _⟩)
    · exact .inl h
    · exact .inr (.inl ⟨id, hl, base, sz, h⟩)

/-- An array goes over into another one in the same block. -/
theorem move_take (hS : Sim ok μ m w) {id d B base sz : Nat} {o o' : Obj} (hid : m.get id = some o) (hnd : o.isDead = false) (hB : Blk μ id B) (hd : m.get d = none)
    (hsz : w'.heap.size = w.heap.size) (hh : ∀ b, b ≠ B → w'.heap[b]? = w.heap[b]?) (hg : ∀ p, ok B p → cellAt w' B p = cellAt w B p)
    (ho : ObjRep ok (μ.put d (some (B, base, sz))) ((m.set id .dead).set d o') w' d o') (hio : Io w w' := by exact ⟨rfl, rfl⟩) :
    Move ok μ m w ok (μ.put d (some (B, base, sz))) ((m.set id .dead).set d o') w' := by
  have hl : Live m id := ⟨o, hid, hnd⟩
  have hne : id ≠ d := fun e => by rw [e, hd] at hid; cases hid
  have hμ : μ d = none := by
    cases h : μ d with
    | none => rfl
    | some pl => obtain ⟨o, ho⟩ := hS.get h; rw [hd] at ho; cases ho
  have hned : ∀ i, μ i ≠ none → i ≠ d := fun i h e => h (e ▸ hμ)
  have hst : Step ok μ m w ok (μ.put d (some (B, base, sz))) ((m.set id .dead).set d o') w' := by
    refine ⟨⟨fun _ _ h => h, fun b p hb => ?_⟩, ?_, ?_⟩
    · by_cases e : b = B
      · subst e; exact hg p hb
      · exact cellAt_of_heap (hh b e)
    · intro i pl h
      rw [Mu.put_ne μ _ (hned i (by simp [h]))]; exact h
    · intro i q h
      have hi : d ≠ i := fun e => by rw [← e, hd] at h; cases h
      rw [Mem.get_set_ne _ _ hi, Mem.get_set]
      by_cases e : id = i
      · exact ⟨.dead, by simp [e], .inl rfl⟩
      · exact ⟨q, by simp [e, h], Shape.refl q⟩
  have hlive : ∀ i, Live ((m.set id .dead).set d o') i → i = d ∨ (Live m i ∧ i ≠ id ∧ i ≠ d) := by
    intro i hi
    by_cases e : d = i
    · exact .inl e.symm
    · rw [Live.set_ne e] at hi
      by_cases e' : id = i
      · subst e'
        obtain ⟨q, hq, hdd⟩ := hi
        rw [Mem.get_set_self] at hq
        cases hq
        simp [Obj.isDead] at hdd
      · rw [Live.set_ne e'] at hi
        exact .inr ⟨hi, fun x => e' x.symm, fun x => e x.symm⟩
  have hBd : ∀ B', Blk (μ.put d (some (B, base, sz))) d B' → B' = B := by
    rintro B' ⟨b, s, e⟩
    rw [Mu.put_self] at e
    simp only [Option.some.injEq, Prod.mk.injEq] at e
    exact e.1.symm
  refine move_of hS hst (by omega) ?_ ?_ ?_ ?_ ?_ ?_ ?_ (fun b p h => .inl h)
  · intro i
    rw [Mem.get_set]
    by_cases h : d = i
    · subst h; simp [Mu.put_self]
    · rw [Mu.put_ne μ _ (fun e => h e.symm), if_neg h, Mem.get_set]
      by_cases h' : id = i
      · subst h'
        have := (hS.dom id).mp (by simp [hid])
        simp [this]
      · simpa [h'] using hS.dom i
  · intro i q h
    rw [Mem.get_set] at h
    by_cases hi : d = i
    · subst hi
      simp only [if_true, Option.some.injEq] at h
      subst h
      exact .inl ho
    · rw [if_neg hi, Mem.get_set] at h
      by_cases hi' : id = i
      · simp only [hi', if_true, Option.some.injEq] at h
        subst h
        exact .inl trivial
      · rw [if_neg hi'] at h
        by_cases hdd : q.isDead = true
        · refine .inl ?_
          cases q <;> simp [Obj.isDead] at hdd
          trivial
        · refine .inr ⟨h, fun B' hB' => ⟨hh B' ?_, fun p hp => hp⟩⟩
          rintro rfl
          exact hi' (hS.sep id i B' hl ⟨q, h, by simpa using hdd⟩ hB hB')
  · intro i j B' hi hj h1 h2
    rcases hlive i hi with rfl | ⟨a1, a2, a3⟩
    · rcases hlive j hj with rfl | ⟨b1, b2, b3⟩
      · rfl
      · obtain rfl := hBd B' h1
        rw [Blk.put_ne b3] at h2
        exact absurd (hS.sep j id B' b1 hl h2 hB) b2
    · rcases hlive j hj with rfl | ⟨b1, b2, b3⟩
      · obtain rfl := hBd B' h2
        rw [Blk.put_ne a3] at h1
        exact absurd (hS.sep i id B' a1 hl h1 hB) a2
      · rw [Blk.put_ne a3] at h1
        rw [Blk.put_ne b3] at h2
        exact hS.sep i j B' a1 b1 h1 h2
  · intro b p h; rw [hsz]; exact hS.okb b p h
  · intro i B' h
    rw [hsz]
    by_cases e : i = d
    · subst e
      rw [hBd B' h]; exact hS.blk id B hB
    · rw [Blk.put_ne e] at h
      exact hS.blk i B' h
  · intro i B' hi h
    rcases hlive i hi with rfl | ⟨a1, a2, a3⟩
    · obtain rfl := hBd B' h
      exact .inl ⟨id, hl, hB⟩
    · rw [Blk.put_ne a3] at h
      exact .inl ⟨i, a1, h⟩
  · intro b _ hn
    refine hh b ?_
    rintro rfl
    exact hn ⟨id, hl, hB⟩

end

end Go.Ev

/- The abstract evaluator: leaves and cells; reading through pointers. Own work. -/
set_option linter.unusedSimpArgs false
set_option linter.unusedVariables false
namespace Go.Ev
open Go

section
variable {ok : Ok} {μ : Mu} {m : Mem} {w : World}

theorem RepAll.append {α : Type} {f : α → List Value → Prop} : ∀ {xs ys : List α} {cs ds : List Value}, RepAll f xs cs → RepAll f ys ds → RepAll f (xs ++ ys) (cs ++ ds)
  | [], _, _, _, h1, h2 => by simp only [RepAll] at h1; simpa [h1] using h2
  | _ :: _, _, _, _, ⟨c, d, e, h1, h2⟩, h3 => ⟨c, d ++ _, by simp [e], h1, h2.append h3⟩

theorem RepAll.split {α : Type} {f : α → List Value → Prop} : ∀ {xs ys : List α} {cs : List Value}, RepAll f (xs ++ ys) cs → ∃ c d, cs = c ++ d ∧ RepAll f xs c ∧ RepAll f ys d
  | [], _, cs, h => ⟨[], cs, rfl, rfl, h⟩
  | x :: xs, ys, cs, ⟨c, d, e, h1, h2⟩ => by
    obtain ⟨c', d', e', h3, h4⟩ := RepAll.split (xs := xs) h2
    exact ⟨c ++ c', d', by simp [e, e'], ⟨c, c', rfl, h1, h3⟩, h4⟩

theorem RepAll.one {α : Type} {f : α → List Value → Prop} {x : α} {cs : List Value} : RepAll f [x] cs ↔ f x cs := by
  constructor
  · rintro ⟨c, d, e, h1, h2⟩
    simp only [RepAll] at h2
    subst h2; simpa [e] using h1
  · intro h; exact ⟨cs, [], by simp, h, rfl⟩

theorem widths_append (a b : List Leaf) : widths (a ++ b) = widths a + widths b := by
  induction a with
  | nil => simp [widths]
  | cons x xs ih => simp [widths, ih, Nat.add_assoc]

theorem leaves_of_repT : ∀ {t : Ty} {x : t.El} {cs : List Value}, RepT ok w t x cs → RepLs ok μ m w (t.leaves x) cs := by
  intro t
  induction t with
  | bool => intro x cs h; exact RepAll.one.mpr h
  | int k => intro x cs h; exact RepAll.one.mpr h
  | str => intro x cs h; exact RepAll.one.mpr h
  | fn =>
    intro x cs h
    cases x with
    | none => exact RepAll.one.mpr h
    | some f => exact RepAll.one.mpr ⟨#[], #[], h, rfl, rfl⟩
  | sl e _ =>
    intro x cs h
    refine RepAll.one.mpr ⟨h, ?_⟩
    obtain ⟨a, cap, e, _⟩ := h
    exact ⟨a, x.length, cap, e, by simp, by simp, by simp⟩
  | ar n e _ => intro x cs h; exact RepAll.one.mpr h
  | pair a b iha ihb =>
    intro x cs h
    obtain ⟨c, d, rfl, h1, h2⟩ := h
    exact (iha h1).append (ihb h2)

theorem repT_of_leaves : ∀ {t : Ty} {x : t.El} {cs : List Value}, RepLs ok μ m w (t.leaves x) cs → RepT ok w t x cs := by
  intro t
  induction t with
  | bool => intro x cs h; exact RepAll.one.mp h
  | int k => intro x cs h; exact RepAll.one.mp h
  | str => intro x cs h; exact RepAll.one.mp h
  | fn =>
    intro x cs h
    cases x with
    | none => exact RepAll.one.mp h
    | some f =>
      obtain ⟨a, b, e, h1, h2⟩ := RepAll.one.mp h
      simp only [RepPtrs] at h1 h2
      simp only [RepT]
      rw [e, show a = #[] from Array.toList_inj.mp (by simpa using h1), show b = #[] from Array.toList_inj.mp (by simpa using h2)]
  | sl e _ => intro x cs h; exact (RepAll.one.mp h).1
  | ar n e _ => intro x cs h; exact RepAll.one.mp h
  | pair a b iha ihb =>
    intro x cs h
    obtain ⟨c, d, e, h1, h2⟩ := RepAll.split h
    exact ⟨c, d, e, iha h1, ihb h2⟩

theorem Ty.widths_leaves : ∀ (t : Ty) (x : t.El), widths (t.leaves x) = t.width := by
  intro t
  induction t with
  | fn => intro x; cases x <;> rfl
  | pair a b iha ihb => intro x; simp [Ty.leaves, widths_append, iha, ihb, Ty.width]
  | _ => intro x; simp [Ty.leaves, widths, Leaf.width, Ty.width]

/-- What is read off leaves is what they stand for. -/
theorem ofLeaves_sound : ∀ {t : Ty} {ls r : List Leaf} {x : t.El} {cs : List Value}, t.ofLeaves ls = some (x, r) → RepLs ok μ m w ls cs →
    ∃ c d, cs = c ++ d ∧ RepT ok w t x c ∧ RepLs ok μ m w r d := by
  intro t
  induction t with
  | bool =>
    intro ls r x cs h hr
    cases ls with
    | nil => simp [Ty.ofLeaves] at h
    | cons l ls =>
      cases l <;> simp [Ty.ofLeaves] at h
      obtain ⟨rfl, rfl⟩ := h
      obtain ⟨c, d, e, h1, h2⟩ := hr
      exact ⟨c, d, e, h1, h2⟩
  | int k =>
    intro ls r x cs h hr
    cases ls with
    | nil => simp [Ty.ofLeaves] at h
    | cons l ls =>
      cases l <;> simp [Ty.ofLeaves] at h
      obtain ⟨rfl, rfl, rfl⟩ := h
      obtain ⟨c, d, e, h1, h2⟩ := hr
      exact ⟨c, d, e, h1, h2⟩
  | str =>
    intro ls r x cs h hr
    cases ls with
    | nil => simp [Ty.ofLeaves] at h
    | cons l ls =>
      cases l <;> simp [Ty.ofLeaves] at h
      obtain ⟨rfl, rfl⟩ := h
      obtain ⟨c, d, e, h1, h2⟩ := hr
      exact ⟨c, d, e, h1, h2⟩
  | fn =>
    intro ls r x cs h hr
    cases ls with
    | nil => simp [Ty.ofLeaves] at h
    | cons l ls =>
      obtain ⟨c, d, e, h1, h2⟩ := hr
      cases l <;> simp [Ty.ofLeaves] at h
      · rename_i f a b
        cases a <;> cases b <;> simp at h
        obtain ⟨rfl, rfl⟩ := h
        exact ⟨c, d, e, repT_of_leaves (t := .fn) (RepAll.one.mpr h1), h2⟩
      · obtain ⟨rfl, rfl⟩ := h
        exact ⟨c, d, e, h1, h2⟩
  | sl e _ =>
    intro ls r x cs h hr
    cases ls with
    | nil => simp [Ty.ofLeaves] at h
    | cons l ls =>
      obtain ⟨c, d, e, h1, h2⟩ := hr
      cases l <;> simp [Ty.ofLeaves] at h
      · rename_i τ xs nl lim
        obtain ⟨⟨hτ, hx⟩, rfl⟩ := h
        subst hτ
        subst hx
        exact ⟨c, d, e, h1.1, h2⟩
      · obtain ⟨rfl, rfl⟩ := h
        refine ⟨c, d, e, ?_, h2⟩
        simp only [RepL] at h1
        exact ⟨none, 0, by simp [h1], by simp, by simp, by simp⟩
  | ar n e _ =>
    intro ls r x cs h hr
    cases ls with
    | nil => simp [Ty.ofLeaves] at h
    | cons l ls =>
      obtain ⟨c, d, e, h1, h2⟩ := hr
      cases l <;> simp [Ty.ofLeaves] at h
      rename_i n' τ xs
      obtain ⟨hn, ⟨hτ, hx⟩, rfl⟩ := h
      subst hn; subst hτ; subst hx
      exact ⟨c, d, e, h1, h2⟩
  | pair a b iha ihb =>
    intro ls r x cs h hr
    simp only [Ty.ofLeaves] at h
    split at h
    · rename_i x1 r1 e1
      split at h
      · rename_i y r2 e2
        simp only [Option.some.injEq, Prod.mk.injEq] at h
        obtain ⟨rfl, rfl⟩ := h
        obtain ⟨c1, d1, rfl, h1, h2⟩ := iha e1 hr
        obtain ⟨c2, d2, rfl, h3, h4⟩ := ihb e2 h2
        exact ⟨c1 ++ c2, d2, by simp, ⟨c1, c2, rfl, h1, h3⟩, h4⟩
      · simp at h
    · simp at h

theorem read_sound {t : Ty} {ls : List Leaf} {x : t.El} {cs : List Value} (h : t.read ls = some x) (hr : RepLs ok μ m w ls cs) : RepT ok w t x cs := by
  unfold Ty.read at h
  split at h
  · rename_i x' e
    cases h
    obtain ⟨c, d, rfl, h1, h2⟩ := ofLeaves_sound e hr
    simp only [RepLs, RepAll] at h2
    simpa [h2] using h1
  · simp at h

theorem dropW_sound : ∀ {ls r : List Leaf} {n : Nat} {cs : List Value}, dropW ls n = some r → RepLs ok μ m w ls cs →
    ∃ c d, cs = c ++ d ∧ c.length = n ∧ RepLs ok μ m w r d := by
  intro ls
  induction ls with
  | nil =>
    intro r n cs h hr
    cases n with
    | zero => simp [dropW] at h; subst h; exact ⟨[], cs, rfl, rfl, hr⟩
    | succ n => simp [dropW] at h
  | cons l ls ih =>
    intro r n cs h hr
    cases n with
    | zero => simp [dropW] at h; subst h; exact ⟨[], cs, rfl, rfl, hr⟩
    | succ n =>
      simp only [dropW] at h
      cases hb : Nat.ble l.width (n + 1) with
      | false => simp [hb] at h
      | true =>
        simp only [hb, cond_true] at h
        obtain ⟨c, d, e, h1, h2⟩ := hr
        obtain ⟨c', d', e', h3, h4⟩ := ih h h2
        have := Nat.le_of_ble_eq_true hb
        exact ⟨c ++ c', d', by simp [e, e'], by simp [RepL.length h1, h3]; omega, h4⟩

theorem takeW_sound : ∀ {ls r : List Leaf} {n : Nat} {cs : List Value}, takeW ls n = some r → RepLs ok μ m w ls cs →
    ∃ c d, cs = c ++ d ∧ c.length = n ∧ RepLs ok μ m w r c := by
  intro ls
  induction ls with
  | nil =>
    intro r n cs h hr
    cases n with
    | zero => simp [takeW] at h; subst h; exact ⟨[], cs, rfl, rfl, rfl⟩
    | succ n => simp [takeW] at h
  | cons l ls ih =>
    intro r n cs h hr
    cases n with
    | zero => simp [takeW] at h; subst h; exact ⟨[], cs, rfl, rfl, rfl⟩
    | succ n =>
      simp only [takeW] at h
      cases hb : Nat.ble l.width (n + 1) with
      | false => simp [hb] at h
      | true =>
        simp only [hb, cond_true, Option.map_eq_some_iff] at h
        obtain ⟨r', h, rfl⟩ := h
        obtain ⟨c, d, e, h1, h2⟩ := hr
        obtain ⟨c', d', e', h3, h4⟩ := ih h h2
        have := Nat.le_of_ble_eq_true hb
        exact ⟨c ++ c', d', by simp [e, e'], by simp [RepL.length h1, h3]; omega, ⟨c, c', rfl, h1, h4⟩⟩

theorem cutW_sound {ls r : List Leaf} {off n : Nat} {cs : List Value} (h : cutW ls off n = some r) (hr : RepLs ok μ m w ls cs) :
    ∃ c d e, cs = c ++ d ++ e ∧ c.length = off ∧ d.length = n ∧ RepLs ok μ m w r d := by
  unfold cutW at h
  split at h
  · rename_i q hq
    obtain ⟨c, d, rfl, h1, h2⟩ := dropW_sound hq hr
    obtain ⟨d', e, rfl, h3, h4⟩ := takeW_sound h h2
    exact ⟨c, d', e, by simp, h1, h3, h4⟩
  · simp at h

theorem putW_sound {ls new ls' : List Leaf} {off : Nat} {cs cn : List Value} (h : putW ls off new = some ls') (hr : RepLs ok μ m w ls cs) (hn : RepLs ok μ m w new cn) :
    ∃ c d e, cs = c ++ d ++ e ∧ c.length = off ∧ d.length = cn.length ∧ RepLs ok μ m w ls' (c ++ cn ++ e) := by
  unfold putW at h
  split at h
  · rename_i a ha
    split at h
    · rename_i b hb
      cases h
      obtain ⟨c, d, e1, h1, h2⟩ := takeW_sound ha hr
      obtain ⟨c', e, e2, h3, h4⟩ := dropW_sound hb hr
      have hl := RepLs.length hn
      have hle : c.length + cn.length ≤ c'.length := by omega
      have hc : c = c'.take off := by
        have := congrArg (List.take off) (e1.symm.trans e2)
        rw [List.take_append_of_le_length (by omega), List.take_append_of_le_length (by omega)] at this
        rwa [List.take_of_length_le (by omega)] at this
      refine ⟨c, c'.drop off, e, ?_, h1, by simp; omega, ?_⟩
      · rw [e2, hc, List.take_append_drop]
      · exact (h2.append hn).append h4
    · simp at h
  · simp at h

end

/-! ### constants and operands -/
theorem leafConst_sound {ok : Ok} {μ : Mu} {m : Mem} {w : World} {v : Value} {l : Leaf} (h : leafConst v = some l) : RepL ok μ m w l [v] := by
  unfold leafConst at h
  split at h <;> first
    | (simp at h; done)
    | (simp only [Option.some.injEq] at h; subst h; first | rfl | exact ⟨_, rfl, rfl⟩)
    | skip
  · obtain ⟨rfl, hb⟩ := strConst_some h
    exact ⟨_, rfl, rfl, Nat.le_trans hb (by decide)⟩
  rename_i f fs cs
  split at h
  · rename_i e1 e2
    simp only [Option.some.injEq] at h; subst h
    exact ⟨fs, cs, rfl, by simpa [RepPtrs] using e1, by simpa [RepPtrs] using e2⟩
  · simp at h

theorem constLeaves_sound {ok : Ok} {μ : Mu} {m : Mem} {w : World} : ∀ {vs : List Value} {ls : List Leaf}, constLeaves vs = some ls → RepLs ok μ m w ls vs
  | [], ls, h => by simp [constLeaves] at h; subst h; rfl
  | v :: vs, ls, h => by
    simp only [constLeaves] at h
    split at h
    · rename_i l ls' e1 e2
      simp only [Option.some.injEq] at h; subst h
      exact ⟨[v], vs, rfl, leafConst_sound e1, constLeaves_sound e2⟩
    · simp at h

theorem avConst_sound {ok : Ok} {μ : Mu} {m : Mem} {w : World} (v : Value) : RepAV ok μ m w (avConst v) v := by
  unfold avConst
  split
  · rename_i cs
    split
    · rename_i ls e
      exact ⟨cs, rfl, constLeaves_sound e⟩
    · trivial
  · rename_i vs
    split
    · rename_i e
      have : vs = #[] := Array.toList_inj.mp (by simpa using e)
      simp [this, RepAV]
    · trivial
  · split
    · rename_i l e
      exact leafConst_sound e
    · trivial

theorem RepAVs.get {ok : Ok} {μ : Mu} {m : Mem} {w : World} : ∀ {xs : List AV} {vs : List Value} (h : RepAVs ok μ m w xs vs) (i : Nat), RepAV ok μ m w (xs.getD i .any) (vs.getD i undef)
  | [], vs, h, i => by simp [RepAV]
  | x :: xs, _, ⟨v, s, rfl, h1, h2⟩, 0 => by simpa using h1
  | x :: xs, _, ⟨v, s, rfl, h1, h2⟩, i + 1 => by simpa using h2.get i

theorem RepAVs.length {ok : Ok} {μ : Mu} {m : Mem} {w : World} : ∀ {xs : List AV} {vs : List Value} (h : RepAVs ok μ m w xs vs), vs.length = xs.length
  | [], vs, h => by simp only [RepAVs] at h; simp [h]
  | x :: xs, _, ⟨v, s, rfl, h1, h2⟩ => by simp [h2.length]

theorem RepAVs.set {ok : Ok} {μ : Mu} {m : Mem} {w : World} : ∀ {xs : List AV} {vs : List Value} (h : RepAVs ok μ m w xs vs) (i : Nat) {x : AV} {v : Value}, RepAV ok μ m w x v → RepAVs ok μ m w (xs.set i x) (vs.set i v)
  | [], vs, h, i, x, v, hx => by simp only [RepAVs] at h; subst h; simp [RepAVs]
  | y :: xs, _, ⟨u, s, rfl, h1, h2⟩, 0, x, v, hx => ⟨v, s, rfl, hx, h2⟩
  | y :: xs, _, ⟨u, s, rfl, h1, h2⟩, i + 1, x, v, hx => ⟨u, s.set i v, rfl, h1, h2.set i hx⟩

theorem ev_sound {ok : Ok} {μ : Mu} {m : Mem} {w : World} {st : St} {a : Act} (h : RepAVs ok μ m w st.tmps a.tmps.toList) (x : Operand) : RepAV ok μ m w (ev st x) (a.eval x) := by
  cases x with
  | tmp t =>
    have := h.get t
    have e : a.tmps.toList.getD t undef = a.tmps.getD t undef := by simp [List.getD, Array.getD_eq_getD_getElem?]
    rw [e] at this
    exact this
  | const v => exact avConst_sound v
  | global g => trivial
  | func f => exact ⟨#[], #[], rfl, rfl, rfl⟩

theorem evs_sound {ok : Ok} {μ : Mu} {m : Mem} {w : World} {st : St} {a : Act} (h : RepAVs ok μ m w st.tmps a.tmps.toList) : ∀ (xs : List Operand), RepAVs ok μ m w (xs.map (ev st)) (xs.map a.eval)
  | [] => rfl
  | x :: xs => ⟨_, _, rfl, ev_sound h x, evs_sound h xs⟩

end Go.Ev

/- The abstract evaluator: what an operation's run owes; reading. Own work. -/
set_option linter.unusedSimpArgs false
set_option linter.unusedVariables false
namespace Go.Ev
open Go

/-- A step of the model ends in a value, at once or by a call. -/
def Runs (P : Program) (s : Sem Next) (w : World) (R : Value → World → Prop) : Prop :=
  match s.run P w with
  | .ok (.value v) w' => R v w'
  | .ok .skip w' => R Go.undef w'
  | .ok (.enter f args) w' => Calls P f args w' fun e w'' => ∃ v, e = .returned v ∧ R v w''
  | _ => False

theorem Runs.wp {P : Program} {o : Oper} {a : Act} {w : World} {R : Value → World → Prop} {next : Act → World → Prop} {Q : Exit → Act → World → Prop}
    (h : Runs P (execOp a.eval o) w R) (hn : ∀ v w', R v w' → next (a.put o.dst v) w') : o.wp P a w next Q := by
  unfold Oper.wp
  unfold Runs at h
  split at h
  · rename_i v w' e; rw [e, Oper.upon_value]; exact hn _ _ h
  · rename_i w' e; rw [e, Oper.upon_skip]; exact hn _ _ h
  · rename_i f args w' e
    rw [e, Oper.upon_enter]
    refine h.mono ?_
    rintro e w'' ⟨v, rfl, hr⟩
    exact hn _ _ hr
  · exact h.elim

theorem Runs.value {P : Program} {s : Sem Value} {w w' : World} {v : Value} {R : Value → World → Prop} (h : s.run P w = .ok v w') (hr : R v w') :
    Runs P (do pure (.value (← s))) w R := by
  unfold Runs
  simp only [Sem.run_bind, h, Result.andThen_ok, Sem.run_pure]
  exact hr

theorem Runs.unit {P : Program} {s : Sem Unit} {w w' : World} {R : Value → World → Prop} (h : s.run P w = .ok () w') (hr : R Go.undef w') :
    Runs P (do s; pure .skip) w R := by
  unfold Runs
  simp only [Sem.run_bind, h, Result.andThen_ok, Sem.run_pure]
  exact hr

/-- What an operation that goes on with 'k' has done. -/
def Post (ok : Ok) (μ : Mu) (m : Mem) (w : World) (k : AV → Mem → R) (r : AV × Mem) : Value → World → Prop :=
  fun v w' => ∃ av ok' μ' m', k av m' = some r ∧ Move ok μ m w ok' μ' m' w' ∧ RepAV ok' μ' m' w' av v

theorem gd_some {c : Bool} {k : R} {r : AV × Mem} : gd c k = some r ↔ c = true ∧ k = some r := by cases c <;> simp [gd]
theorem opt_some {α : Type} {o : Option α} {k : α → R} {r : AV × Mem} : opt o k = some r ↔ ∃ x, o = some x ∧ k x = some r := by cases o <;> simp [opt]

theorem addr_add (B o j : Nat) : (⟨B, o, none⟩ : Addr).add j = ⟨B, o + j, none⟩ := by unfold Addr.add; split <;> simp_all

theorem cell_of_cells {w : World} {B o : Nat} {c : Array Value} {E : TypeId} {fz : Nat × Nat} (h : w.heap[B]? = some (.cells c E fz)) : w.cell? ⟨B, o, none⟩ = c[o]? := by
  simp [World.cell?, h]

theorem RepAll.nth {α : Type} {f : α → List Value → Prop} {wd : Nat} (hf : ∀ x c, f x c → c.length = wd) : ∀ {xs : List α} {cs : List Value} (h : RepAll f xs cs) (i : Nat) (hi : i < xs.length),
    ∃ c d e, cs = c ++ d ++ e ∧ c.length = i * wd ∧ f xs[i] d
  | x :: xs, cs, ⟨c, d, e, h1, h2⟩, 0, _ => ⟨[], c, d, by simpa using e, by simp, h1⟩
  | x :: xs, cs, ⟨c, d, e, h1, h2⟩, i + 1, hi => by
    obtain ⟨c', d', e', he, hl, hfi⟩ := h2.nth hf i (by simpa using hi)
    refine ⟨c ++ c', d', e', by simp [e, he], by simp [hf _ _ h1, hl, Nat.succ_mul]; omega, by simpa using hfi⟩

section
variable {P : Program} {ok : Ok} {μ : Mu} {m : Mem} {w : World}

theorem list_mid {α : Type} {c d e l : List α} (h : l = c ++ d ++ e) {j : Nat} {u : α} (hj : d[j]? = some u) : l[c.length + j]? = some u := by
  have hd : j < d.length := by
    rcases Nat.lt_or_ge j d.length with h1 | h1
    · exact h1
    · rw [List.getElem?_eq_none h1] at hj; cases hj
  rw [h, List.append_assoc, List.getElem?_append_right (by omega), List.getElem?_append_left (by omega)]
  simpa using hj

theorem getD_get {α : Type} (xs : List α) (i : Nat) (d : α) (h : i < xs.length) : xs.getD i d = xs[i] := by
  simp [List.getD, List.getElem?_eq_getElem h]

theorem readPtr_sound {t : TypeId} {p : Leaf} {k : List Leaf → R} {r : AV × Mem} {v : Value} (hS : Sim ok μ m w) (h : readPtr P m t p k = some r) (hp : RepL ok μ m w p [v]) :
    ∃ ls cs B o, k ls = some r ∧ v = .pointer (some ⟨B, o, none⟩) ∧ RepLs ok μ m w ls cs ∧ cs.length = sizeTy P t ∧
      ∀ j u, cs[j]? = some u → w.cell? ⟨B, o + j, none⟩ = some u := by
  cases p with
  | ptr id off ix =>
    obtain ⟨B, base, sz, hm, hv⟩ := hp
    simp only [List.cons.injEq, and_true] at hv
    simp only [readPtr] at h
    cases hid : m.get id with
    | none => simp [hid] at h
    | some o =>
      have hO := hS.objs id o hid
      cases o with
      | box ro ls =>
        obtain ⟨B', sz', c, E, fz, e1, e2, e3, e4, e5, e6⟩ := hO
        rw [e1] at hm
        simp only [Option.some.injEq, Prod.mk.injEq] at hm
        obtain ⟨rfl, rfl, rfl⟩ := hm
        simp only [hid] at h
        cases ix with
        | none =>
          simp only [opt_some] at h
          obtain ⟨cut, hcut, hk⟩ := h
          obtain ⟨a, d, z, hc, hl, hn, hr⟩ := cutW_sound hcut e5
          refine ⟨cut, d, B', off, hk, by simpa [ixOff] using hv, hr, hn, ?_⟩
          intro j u hj
          rw [cell_of_cells e2]
          have := list_mid hc hj
          rw [hl] at this
          simpa using this
        | some x =>
          obtain ⟨i, wd, sub⟩ := x
          simp only at h
          split at h
          · rename_i n τ xs rest hd
            simp only [gd_some, opt_some, Bool.and_eq_true, decide_eq_true_eq, nbeq] at h
            obtain ⟨⟨hw, hi⟩, cut, hcut, hk⟩ := h
            subst hw
            obtain ⟨a, b, hab, hla, hrb⟩ := dropW_sound hd e5
            obtain ⟨b1, b2, rfl, hb1, _⟩ := hrb
            obtain ⟨hxl, hall⟩ := hb1
            have hi' : i < xs.length := by omega
            obtain ⟨p1, p2, p3, hp, hlp, hx⟩ := hall.nth (fun _ _ h => RepT.length h) i hi'
            rw [getD_get _ _ _ hi'] at hcut
            obtain ⟨q1, q2, q3, hq, hlq, hnq, hrq⟩ := cutW_sound hcut (leaves_of_repT (m := m) (μ := μ) hx)
            refine ⟨cut, q2, B', off + (i * τ.width + sub), hk, by simpa [ixOff] using hv, hrq, hnq, ?_⟩
            intro j u hj
            rw [cell_of_cells e2]
            have h3 := list_mid hq hj
            have h2 := list_mid hp h3
            have h1 : (b1 ++ b2)[p1.length + (q1.length + j)]? = some u := by
              rw [List.getElem?_append_left]
              · exact h2
              · rcases Nat.lt_or_ge (p1.length + (q1.length + j)) b1.length with h | h
                · exact h
                · rw [List.getElem?_eq_none h] at h2; cases h2
            have h0 : c.toList[a.length + (p1.length + (q1.length + j))]? = some u := by
              rw [hab, List.getElem?_append_right (by omega)]
              simpa using h1
            rw [hla, hlp, hlq] at h0
            rw [← Array.getElem?_toList, ← h0]
            congr 1
            omega
          · simp at h
      | arr τ xs ro =>
        simp only [hid] at h
        obtain ⟨_, hO⟩ := hO
        rcases hO with ⟨e1, _⟩ | ⟨B', base', sz', c, E, fz, e1, e2, e3, e4, e5, e6, e7, e8⟩
        · rw [e1] at hm; simp at hm
        · rw [e1] at hm
          simp only [Option.some.injEq, Prod.mk.injEq] at hm
          obtain ⟨rfl, rfl, rfl⟩ := hm
          split at h
          · rename_i i wd sub
            simp only [gd_some, opt_some, Bool.and_eq_true, decide_eq_true_eq, nbeq] at h
            obtain ⟨⟨hw, hi⟩, cut, hcut, hk⟩ := h
            subst hw
            obtain ⟨cs, hcs, hat⟩ := e6 i hi
            rw [getD_get _ _ _ hi] at hcut
            obtain ⟨q1, q2, q3, hq, hlq, hnq, hrq⟩ := cutW_sound hcut (leaves_of_repT (m := m) (μ := μ) hcs)
            refine ⟨cut, q2, B', base' + (i * τ.width + sub), hk, by simpa [ixOff] using hv, hrq, hnq, ?_⟩
            intro j u hj
            rw [cell_of_cells e2]
            have := hat _ _ (list_mid hq hj)
            rw [hlq] at this
            rw [← this]
            congr 1
            omega
          · simp at h
      | raw wd els =>
        simp only [hid] at h
        obtain ⟨B', sz', c, E, fz, e1, e2, e3, e4, e6, e7⟩ := hO
        rw [e1] at hm
        simp only [Option.some.injEq, Prod.mk.injEq] at hm
        obtain ⟨rfl, rfl, rfl⟩ := hm
        split at h
        · rename_i i wd' sub
          simp only [gd_some, opt_some, Bool.and_eq_true, decide_eq_true_eq, nbeq] at h
          obtain ⟨⟨hw, hi⟩, cut, hcut, hk⟩ := h
          subst hw
          obtain ⟨p1, p2, p3, hp, hlp, hx, _⟩ := e6.nth (fun _ _ h => h.2) i hi
          rw [getD_get _ _ _ hi] at hcut
          obtain ⟨q1, q2, q3, hq, hlq, hnq, hrq⟩ := cutW_sound hcut hx
          refine ⟨cut, q2, B', i * wd + sub, hk, by simpa [ixOff] using hv, hrq, hnq, ?_⟩
          intro j u hj
          rw [cell_of_cells e2]
          have := list_mid hp (list_mid hq hj)
          rw [hlp, hlq] at this
          rw [← Array.getElem?_toList, ← this]
          congr 1
          omega
        · simp at h
      | map ro κ τ es => simp [hid] at h
      | dead => simp [hid] at h
  | cptr τ x off =>
    simp only [readPtr, opt_some] at h
    obtain ⟨cut, hcut, hk⟩ := h
    obtain ⟨B, o, c, hv, hx, hat⟩ := hp
    simp only [List.cons.injEq, and_true] at hv
    obtain ⟨q1, q2, q3, hq, hlq, hnq, hrq⟩ := cutW_sound hcut (leaves_of_repT (m := m) (μ := μ) hx)
    refine ⟨cut, q2, B, o + off, hk, hv, hrq, hnq, ?_⟩
    intro j u hj
    have := (hat _ _ (list_mid hq hj)).2
    rw [hlq] at this
    simp only [cellAt] at this
    rw [← this]
    congr 2
    omega
  | _ => simp [readPtr] at h

/-! ### loads -/
theorem run_isAgg (w : World) {t : TypeId} {d : TypeDesc} (h : P.underlying t = some d) : (isAgg t).run P w = .ok (aggD d) w := by
  unfold isAgg
  simp only [Sem.run_bind, run_underlying h, Result.andThen_ok]
  cases d <;> rfl

theorem info_of_underlying {t : TypeId} {d : TypeDesc} (h : P.underlying t = some d) : ∃ i, P.info? t = some i := by
  unfold Program.underlying at h
  cases hi : P.info? t with
  | none => simp [hi] at h
  | some i => exact ⟨i, rfl⟩

theorem run_sizeOf (w : World) {t : TypeId} {i : TypeInfo} (h : P.info? t = some i) : (sizeOf t).run P w = .ok (sizeTy P t) w := by
  simp [sizeOf, typeInfo, h, sizeTy]

theorem mkV_sound {t : TypeId} {ls : List Leaf} {cs : List Value} {v : V} (hv : mkV P t ls = some v) (hr : RepLs ok μ m w ls cs) :
    ∃ d, P.underlying t = some d ∧ ((aggD d = true ∧ v = .agg ls ∧ RepV ok μ m w v (.agg cs.toArray)) ∨ (aggD d = false ∧ ∃ u, cs = [u] ∧ RepV ok μ m w v u)) := by
  unfold mkV at hv
  cases hu : P.underlying t with
  | none => simp [hu] at hv
  | some d =>
    refine ⟨d, rfl, ?_⟩
    simp only [hu] at hv
    cases ha : aggD d with
    | true =>
      simp only [ha, cond_true, Option.some.injEq] at hv
      subst hv
      exact .inl ⟨rfl, rfl, cs.toArray, rfl, by simpa using hr⟩
    | false =>
      simp only [ha, cond_false] at hv
      refine .inr ⟨rfl, ?_⟩
      cases ls with
      | nil => simp at hv
      | cons l rest =>
        cases rest with
        | cons _ _ => simp at hv
        | nil =>
          simp only [nbeq] at hv
          by_cases hw : l.width = 1
          · simp only [hw, decide_true, cond_true, Option.some.injEq] at hv
            subst hv
            have h1 := RepAll.one.mp hr
            have hlen := RepL.length h1
            rw [hw] at hlen
            obtain ⟨u, rfl⟩ := List.length_eq_one_iff.mp hlen
            exact ⟨u, rfl, h1⟩
          · simp [hw] at hv

theorem load_sound {t : TypeId} {ls : List Leaf} {cs : List Value} {B o : Nat} {v : V} (hv : mkV P t ls = some v) (hr : RepLs ok μ m w ls cs) (hl : cs.length = sizeTy P t)
    (hc : ∀ j u, cs[j]? = some u → w.cell? ⟨B, o + j, none⟩ = some u) :
    ∃ u, (loadVar t ⟨B, o, none⟩).run P w = .ok u w ∧ RepV ok μ m w v u := by
  obtain ⟨d, hu, h⟩ := mkV_sound hv hr
  obtain ⟨i, hi⟩ := info_of_underlying hu
  have hload := run_loadCells_list (P := P) w ⟨B, o, none⟩ cs (fun j u hj => by rw [addr_add]; exact hc j u hj)
  rcases h with ⟨ha, rfl, hv⟩ | ⟨ha, u, rfl, hv⟩
  · refine ⟨_, ?_, hv⟩
    simp only [loadVar, Sem.run_bind, run_isAgg w hu, Result.andThen_ok, ha, if_true, run_sizeOf w hi, ← hl, hload, Sem.run_pure]
  · refine ⟨u, ?_, hv⟩
    have := hc 0 u rfl
    simp only [Nat.add_zero] at this
    simp [loadVar, Sem.run_bind, run_isAgg w hu, ha, this]

theorem oneK_some {v : AV} {k : Leaf → R} {r : AV × Mem} (h : oneK v k = some r) : ∃ l, v = .val (.one l) ∧ k l = some r := by
  unfold oneK at h
  split at h
  · exact ⟨_, rfl, h⟩
  · simp at h

theorem intK_some {v : AV} {k : IntKind → Int → R} {r : AV × Mem} (h : intK v k = some r) : ∃ κ n, v = .val (.one (.int κ n)) ∧ k κ n = some r := by
  unfold intK at h
  split at h
  · exact ⟨_, _, rfl, h⟩
  · simp at h

theorem boolK_some {v : AV} {k : Bool → R} {r : AV × Mem} (h : boolK v k = some r) : ∃ b, v = .val (.one (.bool b)) ∧ k b = some r := by
  unfold boolK at h
  split at h
  · exact ⟨_, rfl, h⟩
  · simp at h

theorem load_runs {t : TypeId} {x : AV} {u : Value} {k : AV → Mem → R} {r : AV × Mem} (hS : Sim ok μ m w) (hx : RepAV ok μ m w x u)
    (h : (oneK x fun p => readPtr P m t p fun ls => opt (mkV P t ls) fun v => k (.val v) m) = some r) :
    Runs P (do pure (.value (← Instr.loadAt t u))) w (Post ok μ m w k r) := by
  obtain ⟨p, rfl, h⟩ := oneK_some h
  obtain ⟨ls, cs, B, o, hk, rfl, hr, hl, hc⟩ := readPtr_sound hS h hx
  obtain ⟨v, hv, hk⟩ := opt_some.mp hk
  obtain ⟨y, hy, hrep⟩ := load_sound hv hr hl hc
  refine Runs.value (w' := w) (v := y) ?_ ⟨.val v, ok, μ, m, hk, Move.refl hS, hrep⟩
  simp [Instr.loadAt, Instr.sureAddr, hy]

end
end Go.Ev

/- The abstract evaluator: '==' on plain data. Own work. -/
set_option linter.unusedSimpArgs false
set_option linter.unusedVariables false
namespace Go.Ev
open Go

/-- A value of a type, by its cells. -/
def IsVal (P : Program) (t : TypeId) (cs : List Value) (a : Value) : Prop :=
  ∃ d, P.underlying t = some d ∧ ((aggD d = true ∧ a = .agg cs.toArray) ∨ (aggD d = false ∧ cs = [a]))

section
variable {P : Program} {ok : Ok} {w : World}

theorem part_sound {t : TypeId} {xs : Array Value} {off : Nat} {c d e : List Value} (hx : xs.toList = c ++ d ++ e) (hc : c.length = off) (hd : d.length = sizeTy P t)
    {D : TypeDesc} (hu : P.underlying t = some D) (h1 : aggD D = false → d.length = 1) :
    ∃ a, (part t xs off).run P w = .ok a w ∧ IsVal P t d a := by
  obtain ⟨i, hi⟩ := info_of_underlying hu
  cases ha : aggD D with
  | true =>
    refine ⟨.agg d.toArray, ?_, D, hu, .inl ⟨ha, rfl⟩⟩
    simp only [part, Sem.run_bind, run_isAgg w hu, Result.andThen_ok, ha, if_true, run_sizeOf w hi, Sem.run_pure]
    congr 2
    apply Array.toList_inj.mp
    simp only [Array.toList_extract, List.extract, hx, ← hd, ← hc]
    rw [List.append_assoc, List.drop_left]
    simp
  | false =>
    obtain ⟨a, rfl⟩ := List.length_eq_one_iff.mp (h1 ha)
    refine ⟨a, ?_, D, hu, .inr ⟨ha, rfl⟩⟩
    have : xs[off]? = some a := by
      rw [← Array.getElem?_toList, hx, ← hc]
      have := list_mid (l := c ++ [a] ++ e) rfl (j := 0) (u := a) rfl
      simp only [Nat.add_zero] at this
      exact this
    simp [part, Sem.run_bind, run_isAgg w hu, ha, this]

theorem eqTyN_underlying {n : Nat} {t : TypeId} {τ : Ty} (h : eqTyN P n t = some τ) : ∃ D, P.underlying t = some D ∧ (aggD D = false → τ.width = 1) := by
  cases n with
  | zero => simp [eqTyN] at h
  | succ n =>
    simp only [eqTyN] at h
    split at h <;> first
      | (rename_i e; simp only [Option.some.injEq] at h; subst h; exact ⟨_, e, fun _ => rfl⟩)
      | (rename_i e; exact ⟨_, e, fun h => by simp [aggD] at h⟩)
      | simp at h

theorem pairs_cons {a : Ty} {r : List Ty} {τ : Ty} (h : pairs (a :: r) = some τ) : (r = [] ∧ τ = a) ∨ ∃ b, pairs r = some b ∧ τ = .pair a b := by
  cases r with
  | nil => simp [pairs] at h; exact .inl ⟨rfl, h.symm⟩
  | cons x xs =>
    simp only [pairs, Option.map_eq_some_iff] at h
    obtain ⟨b, h1, h2⟩ := h
    exact .inr ⟨b, h1, h2.symm⟩

theorem eqArr_run (d n : Nat) (e : TypeId) (xs ys : Array Value) (rs : Nat → Bool) : ∀ (k i : Nat),
    (∀ j, i ≤ j → j < i + k → ∃ a b, (part e xs (j * n)).run P w = .ok a w ∧ (part e ys (j * n)).run P w = .ok b w ∧ (Op.equalIn d e a b).run P w = .ok (rs j) w) →
    (forIn (List.range' i k) ((none, ()) : Option Bool × Unit) fun i _ => do
        let a ← part e xs (i * n)
        let b ← part e ys (i * n)
        let r ← Op.equalIn d e a b
        if (!r) = true then pure (ForInStep.done (some false, ())) else pure (ForInStep.yield (none, ())) : Sem (Option Bool × Unit)).run P w =
      .ok (if (List.range' i k).all rs then (none, ()) else (some false, ())) w := by
  intro k
  induction k with
  | zero => intro i h; simp
  | succ k ih =>
    intro i h
    obtain ⟨a, b, h1, h2, h3⟩ := h i (Nat.le_refl _) (by omega)
    rw [List.range'_succ]
    simp only [List.forIn_cons, Sem.run_bind, h1, h2, h3, Result.andThen_ok]
    cases hr : rs i with
    | false => simp [hr]
    | true =>
      simp only [Bool.not_true, Bool.false_eq_true, if_false, Sem.run_pure, Result.andThen_ok]
      rw [ih (i + 1) (fun j hj hj' => h j (by omega) (by omega))]
      simp only [List.all_cons, hr, Bool.true_and]

theorem beq_go_all (e : Ty) : ∀ (xs ys : List e.El), xs.length = ys.length → beqL e.beq xs ys = (List.range xs.length).all fun i => e.beq (xs.getD i e.dflt) (ys.getD i e.dflt)
  | [], [], _ => rfl
  | x :: xs, y :: ys, h => by
    have := beq_go_all e xs ys (by simpa using h)
    simp only [beqL, this, List.length_cons, List.range_succ_eq_map, List.all_cons, List.all_map, List.getD_cons_zero]
    rfl

theorem equalIn_sound : ∀ (n : Nat) {t : TypeId} {τ : Ty}, eqTyN P n t = some τ → ∀ (d : Nat), n ≤ d → ∀ {x y : τ.El} {cs ds : List Value}, RepT ok w τ x cs → RepT ok w τ y ds →
    ∀ {a b : Value}, IsVal P t cs a → IsVal P t ds b → (Op.equalIn d t a b).run P w = .ok (τ.beq x y) w := by
  intro n
  induction n with
  | zero => intro t τ h; simp [eqTyN] at h
  | succ n ih =>
    intro t τ h d hd x y cs ds hx hy a b ha hb
    obtain ⟨d, rfl⟩ : ∃ k, d = k + 1 := ⟨d - 1, by omega⟩
    have hd' : n ≤ d := by omega
    obtain ⟨D, hu, ha⟩ := ha
    obtain ⟨D', hu', hb⟩ := hb
    obtain rfl : D = D' := by rw [hu] at hu'; exact Option.some.inj hu'
    simp only [eqTyN, hu] at h
    split at h
    · rename_i e; cases e
      simp only [Option.some.injEq] at h; subst h
      simp only [RepT] at hx hy
      simp only [aggD, Bool.false_eq_true, false_and, true_and, false_or, hx, hy, List.cons.injEq, and_true] at ha hb
      rw [← ha, ← hb]
      exact run_equalIn_bool' w d t x y hu
    · rename_i k e; cases e
      simp only [Option.some.injEq] at h; subst h
      simp only [RepT] at hx hy
      simp only [aggD, Bool.false_eq_true, false_and, true_and, false_or, hx, hy, List.cons.injEq, and_true] at ha hb
      rw [← ha, ← hb]
      exact run_equalIn_int w d t _ _ x y hu
    · rename_i e; cases e
      simp only [Option.some.injEq] at h; subst h
      obtain ⟨s, hx, rfl, _⟩ := hx
      obtain ⟨s', hy, rfl, _⟩ := hy
      simp only [aggD, Bool.false_eq_true, false_and, true_and, false_or, hx, hy, List.cons.injEq, and_true] at ha hb
      rw [← ha, ← hb]
      rw [run_equalIn_string w d t s s' hu, ByteArray.toList_eq, ByteArray.toList_eq]
      rfl
    · rename_i l e he; cases he
      split at h
      · rename_i σ hσ
        simp only [nbeq] at h
        by_cases hw : σ.width = sizeTy P e
        · simp only [hw, decide_true, cond_true, Option.some.injEq] at h
          subst h
          simp only [aggD, true_and, Bool.true_eq_false, false_and, or_false] at ha hb
          subst ha; subst hb
          obtain ⟨hlx, hx⟩ := hx
          obtain ⟨hly, hy⟩ := hy
          obtain ⟨De, hue, h1⟩ := eqTyN_underlying hσ
          obtain ⟨ie, hie⟩ := info_of_underlying hue
          simp only [Op.equalIn, Sem.run_bind, run_underlying hu, Result.andThen_ok, run_sizeOf w hie]
          have hrun := eqArr_run (P := P) (w := w) d (sizeTy P e) e cs.toArray ds.toArray (fun i => σ.beq (x.getD i σ.dflt) (y.getD i σ.dflt)) l 0 ?_
          · rw [Std.Legacy.Range.forIn_eq_forIn_range']
            simp only [Std.Legacy.Range.size, Nat.sub_zero, Nat.add_sub_cancel, Nat.div_one]
            rw [hrun]
            simp only [Result.andThen_ok]
            have hb := beq_go_all σ x y (by omega)
            simp only [Ty.beq, hb]
            rw [show x.length = l from hlx, ← List.range_eq_range']
            generalize ((List.range l).all fun i => σ.beq (List.getD x i σ.dflt) (List.getD y i σ.dflt)) = q
            cases q <;> simp
          · intro j _ hj
            have hjx : j < x.length := by omega
            have hjy : j < y.length := by omega
            obtain ⟨c1, d1, e1, p1, p2, p3⟩ := hx.nth (fun _ _ h => RepT.length h) j hjx
            obtain ⟨c2, d2, e2, q1, q2, q3⟩ := hy.nth (fun _ _ h => RepT.length h) j hjy
            rw [hw] at p2 q2
            obtain ⟨a, ra, va⟩ := part_sound (P := P) (w := w) (t := e) (xs := cs.toArray) (by simpa using p1) p2 (by rw [RepT.length p3, hw]) hue (fun h => by rw [RepT.length p3, h1 h])
            obtain ⟨b, rb, vb⟩ := part_sound (P := P) (w := w) (t := e) (xs := ds.toArray) (by simpa using q1) q2 (by rw [RepT.length q3, hw]) hue (fun h => by rw [RepT.length q3, h1 h])
            refine ⟨a, b, ra, rb, ?_⟩
            rw [getD_get _ _ _ hjx, getD_get _ _ _ hjy]
            exact ih hσ d hd' p3 q3 va vb
        · simp [hw] at h
      · simp at h
    · rename_i fs he; cases he
      cases hst : P.stoodInHeld t with
      | true => simp [hst] at h
      | false =>
        simp only [hst, cond_false, Option.bind_eq_some_iff] at h
        obtain ⟨τs, hf, hp⟩ := h
        simp only [aggD, true_and, Bool.true_eq_false, false_and, or_false] at ha hb
        subst ha; subst hb
        have hfs : P.fieldsOf t = fs := by simp [Program.fieldsOf, hu]
        rw [run_equalIn_struct w d t _ _ (by rw [hfs]; exact hu) hst, hfs]
        have key : ∀ (fl : List Field) (off : Nat) (τs : List Ty) (τ : Ty) (x y : τ.El) (pre pre' cs' ds' : List Value), fieldEqs P (eqTyN P n) off fl = some τs → pairs τs = some τ →
            pre.length = off → pre'.length = off → cs = pre ++ cs' → ds = pre' ++ ds' → RepT ok w τ x cs' → RepT ok w τ y ds' →
            (Op.eqFields d cs.toArray ds.toArray fl).run P w = .ok (τ.beq x y) w := by
          intro fl
          induction fl with
          | nil => intro off τs τ x y pre pre' cs' ds' h hp; simp [fieldEqs] at h; subst h; simp [pairs] at hp
          | cons f r ihf =>
            intro off τs τ x y pre pre' cs' ds' h hp hl hl' hc hd'' hx hy
            simp only [fieldEqs] at h
            split at h
            · rename_i σ hσ
              cases hb : (f.name != "_" && Nat.beq f.offset off && Nat.beq σ.width (sizeTy P f.type)) with
              | false => simp [hb] at h
              | true =>
                simp only [hb, cond_true, Option.map_eq_some_iff] at h
                obtain ⟨τr, hr, rfl⟩ := h
                simp only [nbeq, Bool.and_eq_true, decide_eq_true_eq, bne_iff_ne, ne_eq] at hb
                obtain ⟨⟨hname, hoff⟩, hw⟩ := hb
                obtain ⟨De, hue, h1⟩ := eqTyN_underlying hσ
                have go : ∀ {u v : σ.El} {c1 d1 rest rest' : List Value}, cs' = c1 ++ rest → ds' = d1 ++ rest' → RepT ok w σ u c1 → RepT ok w σ v d1 →
                    ∃ a b, (part f.type cs.toArray f.offset).run P w = .ok a w ∧ (part f.type ds.toArray f.offset).run P w = .ok b w ∧ (Op.equalIn d f.type a b).run P w = .ok (σ.beq u v) w := by
                  intro u v c1 d1 rest rest' e1 e2 h3 h4
                  obtain ⟨a, ra, va⟩ := part_sound (P := P) (w := w) (t := f.type) (xs := cs.toArray) (off := f.offset) (c := pre) (d := c1) (e := rest) (by simp [hc, e1]) (by omega) (by rw [RepT.length h3, hw]) hue (fun h => by rw [RepT.length h3, h1 h])
                  obtain ⟨b, rb, vb⟩ := part_sound (P := P) (w := w) (t := f.type) (xs := ds.toArray) (off := f.offset) (c := pre') (d := d1) (e := rest') (by simp [hd'', e2]) (by omega) (by rw [RepT.length h4, hw]) hue (fun h => by rw [RepT.length h4, h1 h])
                  exact ⟨a, b, ra, rb, ih hσ d hd' h3 h4 va vb⟩
                rcases pairs_cons hp with ⟨hnil, rfl⟩ | ⟨β, hβ, rfl⟩
                · subst hnil
                  have hrnil : r = [] := by
                    cases r with
                    | nil => rfl
                    | cons g r' =>
                      simp only [fieldEqs] at hr
                      split at hr
                      · rename_i hh
                        cases hq : (g.name != "_" && Nat.beq g.offset (off + τ.width) && Nat.beq _ (sizeTy P g.type)) with
                        | false => rw [hq] at hr; simp at hr
                        | true => rw [hq] at hr; simp at hr
                      · simp at hr
                  subst hrnil
                  obtain ⟨a, b, r1, r2, r3⟩ := go (rest := []) (rest' := []) (by simp) (by simp) hx hy
                  simp only [Op.eqFields, ne_eq, hname, not_false_eq_true, if_true, Sem.run_bind, r1, r2, r3, Result.andThen_ok, Sem.run_ite, Sem.run_pure]
                  cases hq : τ.beq x y <;> simp [hq]
                · obtain ⟨c1, c2, e1, x1, x2⟩ := hx
                  obtain ⟨d1, d2, e2, y1, y2⟩ := hy
                  obtain ⟨a, b, r1, r2, r3⟩ := go e1 e2 x1 y1
                  have := ihf (off + σ.width) τr β x.2 y.2 (pre ++ c1) (pre' ++ d1) c2 d2 hr hβ (by simp [hl, RepT.length x1]) (by simp [hl', RepT.length y1]) (by simp [hc, e1]) (by simp [hd'', e2]) x2 y2
                  simp only [Op.eqFields, ne_eq, hname, not_false_eq_true, if_true, Sem.run_bind, r1, r2, r3, Result.andThen_ok, Sem.run_ite, Sem.run_pure, this, Ty.beq]
                  cases hq : σ.beq x.1 y.1 <;> simp [hq]
            · simp at h
        exact key fs.toList 0 τs τ x y [] [] cs ds hf hp rfl rfl rfl rfl hx hy
    · simp at h

end
end Go.Ev

/- The abstract evaluator: operators. Own work. -/
set_option linter.unusedSimpArgs false
set_option linter.unusedVariables false
namespace Go.Ev
open Go

section
variable {P : Program} {ok : Ok} {μ : Mu} {m : Mem} {w : World}

theorem run_boundP {α β : Type} {s : Sem α} {f : α → Sem β} {a : α} {w w' : World} (h : s.run P w = .ok a w') : (s >>= f).run P w = (f a).run P w' := by
  simp [Sem.run_bind, h]

/-- The values that '==' on interfaces has nothing to do with. -/
def Value.noIface : Value → Bool
  | .nilIface | .agg _ => false
  | _ => true

theorem eqGuard_run {op : BinOp} {t : TypeId} {X Y : Operand} {u v : Value} (hu : Value.noIface u = true) : (eqGuard op t X Y u v).run P w = .ok () w := by
  unfold eqGuard
  cases u <;> simp [Value.noIface] at hu <;> cases op <;> rfl

theorem eqI_ptr {d : Nat} {t e : TypeId} (h : P.underlying t = some (.pointer e)) (a : Option Addr) : (Op.equalIn (d + 1) t (.pointer a) (.pointer none)).run P w = .ok a.isNone w := by
  cases a <;> simp only [Op.equalIn, Sem.run_bind, run_underlying h, Result.andThen_ok] <;> rfl
theorem eqI_fn {d : Nat} {t : TypeId} {a b : Array TypeId} {c : Bool} (h : P.underlying t = some (.func a b c)) : (Op.equalIn (d + 1) t .nilFunc .nilFunc).run P w = .ok true w := by
  simp only [Op.equalIn, Sem.run_bind, run_underlying h, Result.andThen_ok]; rfl
theorem eqI_fn' {d : Nat} {t : TypeId} {a b : Array TypeId} {c : Bool} (h : P.underlying t = some (.func a b c)) (f : Fn) (x y : Array Value) : (Op.equalIn (d + 1) t (.func f x y) .nilFunc).run P w = .ok false w := by
  simp only [Op.equalIn, Sem.run_bind, run_underlying h, Result.andThen_ok]; rfl
theorem eqI_sl {d : Nat} {t e : TypeId} (h : P.underlying t = some (.slice e)) (a : Option Addr) (n c : Nat) : (Op.equalIn (d + 1) t (.slice a n c) (.slice none 0 0)).run P w = .ok a.isNone w := by
  cases a <;> simp only [Op.equalIn, Sem.run_bind, run_underlying h, Result.andThen_ok] <;> rfl

theorem eql_run {t : TypeId} {u v : Value} {z : Bool} (hb : binOp .eql t u v = (do pure (.bool (← Op.equal t u v)))) (h : (Op.equalIn (9999 + 1) t u v).run P w = .ok z w) :
    (binOp .eql t u v).run P w = .ok (.bool z) w := by
  rw [hb, Op.equal, Op.maxDepth, Sem.run_bind, h]; rfl
theorem neq_run {t : TypeId} {u v : Value} {z : Bool} (hb : binOp .neq t u v = (do pure (.bool (!(← Op.equal t u v))))) (h : (Op.equalIn (9999 + 1) t u v).run P w = .ok z w) :
    (binOp .neq t u v).run P w = .ok (.bool (!z)) w := by
  rw [hb, Op.equal, Op.maxDepth, Sem.run_bind, h]; rfl

theorem rep_int {κ : IntKind} {a : Int} {u : Value} (h : RepAV ok μ m w (.val (.one (.int κ a))) u) : u = .int κ a := by
  simp only [RepAV, RepV, RepL, List.cons.injEq, and_true] at h; exact h
theorem rep_bool {b : Bool} {u : Value} (h : RepAV ok μ m w (.val (.one (.bool b))) u) : u = .bool b := by
  simp only [RepAV, RepV, RepL, List.cons.injEq, and_true] at h; exact h
theorem rep_nilptr {u : Value} (h : RepAV ok μ m w (.val (.one .nilptr)) u) : u = .pointer none := by
  simp only [RepAV, RepV, RepL, List.cons.injEq, and_true] at h; exact h
theorem rep_nilfn {u : Value} (h : RepAV ok μ m w (.val (.one .nilfn)) u) : u = .nilFunc := by
  simp only [RepAV, RepV, RepL, List.cons.injEq, and_true] at h; exact h
theorem rep_nilsl {u : Value} (h : RepAV ok μ m w (.val (.one .nilsl)) u) : u = .slice none 0 0 := by
  simp only [RepAV, RepV, RepL, List.cons.injEq, and_true] at h; exact h
theorem rep_nilmap {u : Value} (h : RepAV ok μ m w (.val (.one .nilmap)) u) : u = .map none := by
  simp only [RepAV, RepV, RepL, List.cons.injEq, and_true] at h; exact h

theorem int_sound {op : BinOp} {t : TypeId} {κ κ' : IntKind} {a b : Int} {k : Leaf → R} {r : AV × Mem}
    (h : aBin P m op t (.val (.one (.int κ a))) (.val (.one (.int κ' b))) k = some r) :
    ∃ l z, k l = some r ∧ (binOp op t (.int κ a) (.int κ' b)).run P w = .ok z w ∧ RepL ok μ m w l [z] := by
  unfold aBin at h
  cases op <;> first
    | (simp only [gd_some, decide_eq_true_eq] at h
       obtain ⟨h1, h2⟩ := h
       refine ⟨_, _, h2, ?_, rfl⟩
       have : ¬ b < 0 := by omega
       simp only [binOp, Op.shift, this, if_false]; rfl)
    | (simp only at h
       split at h
       · rename_i e
         subst e
         first
           | (simp at h; done)
           | (refine ⟨_, _, h, ?_, rfl⟩
              simp only [binOp, ne_eq, not_true_eq_false, if_false, Op.intArith, Op.intBits, Op.intCmp]; rfl)
           | (simp only [gd_some, Bool.not_eq_true', beq_eq_false_iff_ne, ne_eq] at h
              obtain ⟨h1, h2⟩ := h
              refine ⟨_, _, h2, ?_, rfl⟩
              simp only [binOp, ne_eq, not_true_eq_false, if_false, Op.intDiv, h1]; rfl)
       · simp at h)

theorem str_sound {op : BinOp} {t : TypeId} {s s' : ByteArray} {k : Leaf → R} {r : AV × Mem}
    (h : aBin P m op t (.val (.one (.str s.data.toList))) (.val (.one (.str s'.data.toList))) k = some r) :
    ∃ l z, k l = some r ∧ (binOp op t (.string s) (.string s')).run P w = .ok z w ∧ RepL ok μ m w l [z] := by
  unfold aBin at h
  simp only at h
  split at h
  · simp only [gd_some, decide_eq_true_eq] at h
    obtain ⟨h1, h2⟩ := h
    refine ⟨_, .string (s ++ s'), h2, ?_, ⟨s ++ s', rfl, by simp, by simp only [List.length_append, big]; omega⟩⟩
    have h3 : ¬ (((s.size + s'.size : Nat) : Int) > IntKind.i64.max) := by
      simp only [Array.length_toList] at h1
      have e1 : s.data.size = s.size := rfl
      have e2 : s'.data.size = s'.size := rfl
      have : IntKind.i64.max = 9223372036854775807 := rfl
      omega
    simp only [binOp, Op.stringOp]
    simp only [Sem.run_ite]
    rw [if_neg h3]
    rfl
  · refine ⟨_, _, h, ?_, rfl⟩
    simp only [binOp, Op.stringOp, ByteArray.toList_eq]; rfl
  · refine ⟨_, _, h, ?_, rfl⟩
    simp only [binOp, Op.stringOp, ByteArray.toList_eq]; rfl
  · refine ⟨_, _, h, ?_, rfl⟩
    simp only [binOp, Op.stringOp, ByteArray.toList_eq]; rfl
  · simp at h

theorem agg_sound {op : BinOp} {t : TypeId} {xs ys : List Leaf} {cs ds : Array Value} {k : Leaf → R} {r : AV × Mem} (hx : RepLs ok μ m w xs cs.toList) (hy : RepLs ok μ m w ys ds.toList)
    (h : aBin P m op t (.val (.agg xs)) (.val (.agg ys)) k = some r) (X Y : Operand) :
    ∃ l z, k l = some r ∧ (do eqGuard op t X Y (.agg cs) (.agg ds); binOp op t (.agg cs) (.agg ds) : Sem Value).run P w = .ok z w ∧ RepL ok μ m w l [z] := by
  unfold aBin at h
  simp only at h
  cases hg : P.eqGuardType P.depth t with
  | true => simp [hg] at h
  | false =>
    simp only [hg, cond_false] at h
    rw [run_boundP (run_eqGuard_agg w op t X Y cs ds hg)]
    have key : ∀ {τ : Ty}, eqTy P t = some τ → ∀ {a b : τ.El}, τ.read xs = some a → τ.read ys = some b → aggTy P t = true → (Op.equalIn (9999 + 1) t (.agg cs) (.agg ds)).run P w = .ok (τ.beq a b) w := by
      intro τ e a b ha hb hagg
      obtain ⟨D, hu, h1⟩ := eqTyN_underlying e
      have hD : aggD D = true := by simpa [aggTy, hu] using hagg
      exact equalIn_sound 12 e 10000 (by omega) (read_sound ha hx) (read_sound hb hy) ⟨D, hu, .inl ⟨hD, by simp⟩⟩ ⟨D, hu, .inl ⟨hD, by simp⟩⟩
    split at h
    · rename_i τ e
      simp only [gd_some, opt_some] at h
      obtain ⟨hagg, a, ha, b, hb, hk⟩ := h
      exact ⟨_, _, hk, eql_run rfl (key e ha hb hagg), rfl⟩
    · rename_i τ e
      simp only [gd_some, opt_some] at h
      obtain ⟨hagg, a, ha, b, hb, hk⟩ := h
      exact ⟨_, _, hk, neq_run rfl (key e ha hb hagg), rfl⟩
    · simp at h

theorem aBin_sound {op : BinOp} {t : TypeId} {x y : AV} {u v : Value} {k : Leaf → R} {r : AV × Mem} (hS : Sim ok μ m w) (hx : RepAV ok μ m w x u) (hy : RepAV ok μ m w y v)
    (h : aBin P m op t x y k = some r) (X Y : Operand) :
    ∃ l z, k l = some r ∧ (do eqGuard op t X Y u v; binOp op t u v : Sem Value).run P w = .ok z w ∧ RepL ok μ m w l [z] := by
  have h0 := h
  unfold aBin at h
  split at h
  · rename_i κ a κ' b
    obtain rfl := rep_int hx
    obtain rfl := rep_int hy
    rw [run_boundP (eqGuard_run rfl)]
    exact int_sound h0
  · rename_i a b
    obtain ⟨s, hs, rfl, _⟩ := hx
    obtain ⟨s', hs', rfl, _⟩ := hy
    simp only [List.cons.injEq, and_true] at hs hs'
    subst hs; subst hs'
    rw [run_boundP (eqGuard_run rfl)]
    exact str_sound h0
  · rename_i a b
    obtain rfl := rep_bool hx
    obtain rfl := rep_bool hy
    rw [run_boundP (eqGuard_run rfl)]
    split at h
    · rename_i e
      exact ⟨_, _, h, eql_run rfl (run_equalIn_bool' w _ t a b e), rfl⟩
    · rename_i e
      exact ⟨_, _, h, neq_run rfl (run_equalIn_bool' w _ t a b e), rfl⟩
    · simp at h
  · obtain rfl := rep_nilptr hx
    obtain rfl := rep_nilptr hy
    rw [run_boundP (eqGuard_run rfl)]
    split at h
    · rename_i e
      exact ⟨_, _, h, eql_run rfl (eqI_ptr e none), rfl⟩
    · rename_i e
      exact ⟨_, _, h, neq_run rfl (eqI_ptr e none), rfl⟩
    · simp at h
  · obtain ⟨B, base, sz, _, e⟩ := hx
    simp only [List.cons.injEq, and_true] at e
    subst e
    obtain rfl := rep_nilptr hy
    rw [run_boundP (eqGuard_run rfl)]
    split at h
    · rename_i e
      exact ⟨_, _, h, eql_run rfl (eqI_ptr e _), rfl⟩
    · rename_i e
      exact ⟨_, _, h, neq_run rfl (eqI_ptr e _), rfl⟩
    · simp at h
  · obtain ⟨B, o, c, e, _⟩ := hx
    simp only [List.cons.injEq, and_true] at e
    subst e
    obtain rfl := rep_nilptr hy
    rw [run_boundP (eqGuard_run rfl)]
    split at h
    · rename_i e
      exact ⟨_, _, h, eql_run rfl (eqI_ptr e _), rfl⟩
    · rename_i e
      exact ⟨_, _, h, neq_run rfl (eqI_ptr e _), rfl⟩
    · simp at h
  · obtain rfl := rep_nilfn hx
    obtain rfl := rep_nilfn hy
    rw [run_boundP (eqGuard_run rfl)]
    split at h
    · rename_i e
      exact ⟨_, _, h, eql_run rfl (eqI_fn e), rfl⟩
    · rename_i e
      exact ⟨_, _, h, neq_run rfl (eqI_fn e), rfl⟩
    · simp at h
  · obtain ⟨a, b, e, _⟩ := hx
    simp only [List.cons.injEq, and_true] at e
    subst e
    obtain rfl := rep_nilfn hy
    rw [run_boundP (eqGuard_run rfl)]
    split at h
    · rename_i e
      exact ⟨_, _, h, eql_run rfl (eqI_fn' e _ _ _), rfl⟩
    · rename_i e
      exact ⟨_, _, h, neq_run rfl (eqI_fn' e _ _ _), rfl⟩
    · simp at h
  · rename_i τ xs b lim
    obtain ⟨⟨a, cap, hx, _⟩, a', n', cap', hx', h1, h2, _⟩ := hx
    rw [hx] at hx'
    simp only [List.cons.injEq, and_true, Value.slice.injEq] at hx'
    obtain ⟨rfl, _⟩ := hx'
    simp only [List.cons.injEq, and_true] at hx
    subst hx
    obtain rfl := rep_nilsl hy
    rw [run_boundP (eqGuard_run rfl)]
    have hb : b = a.isNone := by
      cases b with
      | true => simp [h1 rfl]
      | false => cases a with
        | none => exact absurd rfl (h2 rfl)
        | some x => rfl
    subst hb
    split at h
    · rename_i e
      exact ⟨_, _, h, eql_run rfl (eqI_sl e _ _ _), rfl⟩
    · rename_i e
      exact ⟨_, _, h, neq_run rfl (eqI_sl e _ _ _), rfl⟩
    · simp at h
  · obtain rfl := rep_nilsl hx
    obtain rfl := rep_nilsl hy
    rw [run_boundP (eqGuard_run rfl)]
    split at h
    · rename_i e
      exact ⟨_, _, h, eql_run rfl (eqI_sl e _ _ _), rfl⟩
    · rename_i e
      exact ⟨_, _, h, neq_run rfl (eqI_sl e _ _ _), rfl⟩
    · simp at h
  · rename_i τ xs lim
    obtain ⟨⟨a, cap, hx, hc, hn, _⟩, _⟩ := hx
    simp only [List.cons.injEq, and_true] at hx
    subst hx
    obtain rfl := rep_nilsl hy
    rw [run_boundP (eqGuard_run rfl)]
    have hb : (!xs.isEmpty) = true → a.isNone = false := by
      intro hne
      cases a with
      | some x => rfl
      | none =>
        have := hn rfl
        have : xs.length = 0 := by omega
        have : xs = [] := List.length_eq_zero_iff.mp this
        simp [this] at hne
    split at h
    · rename_i e
      simp only [gd_some] at h
      obtain ⟨h1, h2⟩ := h
      refine ⟨_, _, h2, eql_run rfl (eqI_sl e _ _ _), ?_⟩
      rw [hb h1]; rfl
    · rename_i e
      simp only [gd_some] at h
      obtain ⟨h1, h2⟩ := h
      refine ⟨_, _, h2, neq_run rfl (eqI_sl e _ _ _), ?_⟩
      rw [hb h1]; rfl
    · simp at h
  · rename_i id vw lim
    obtain rfl := rep_nilsl hy
    split at h
    · rename_i τ xs ro hid
      obtain ⟨u', hu, _, hx⟩ := hx
      simp only [List.cons.injEq, and_true] at hu
      subst hu
      simp only [hid, Option.bind_some, Obj.row] at hx
      obtain ⟨a, cap, rfl, _, _, _, _, hx⟩ := hx
      rw [run_boundP (eqGuard_run rfl)]
      have hb : 0 < vw.len xs → a.isNone = false := by
        intro h0
        rcases hx with ⟨B, base, sz, _, ha, _⟩ | ⟨h1, _⟩
        · rw [ha]; rfl
        · rw [View.len_eq] at h0; omega
      split at h
      · rename_i e
        simp only [gd_some, decide_eq_true_eq] at h
        obtain ⟨h1, h2⟩ := h
        refine ⟨_, _, h2, eql_run rfl (eqI_sl e _ _ _), ?_⟩
        rw [hb h1]; rfl
      · rename_i e
        simp only [gd_some, decide_eq_true_eq] at h
        obtain ⟨h1, h2⟩ := h
        refine ⟨_, _, h2, neq_run rfl (eqI_sl e _ _ _), ?_⟩
        rw [hb h1]; rfl
      · simp at h
    · simp at h
  · rename_i xs ys
    obtain ⟨cs, rfl, hcs⟩ := hx
    obtain ⟨ds, rfl, hds⟩ := hy
    exact agg_sound hcs hds h0 X Y
  · simp at h

theorem aUn_sound {op : UnOp} {l : Leaf} {v : Value} {k : Leaf → R} {r : AV × Mem} (hx : RepL ok μ m w l [v]) (h : aUn op l k = some r) :
    ∃ l' z, k l' = some r ∧ (Op.unary op v).run P w = .ok z w ∧ RepL ok μ m w l' [z] := by
  unfold aUn at h
  split at h
  · obtain rfl : v = .bool _ := by simpa [RepL] using hx
    exact ⟨_, _, h, rfl, rfl⟩
  · obtain rfl : v = .int _ _ := by simpa [RepL] using hx
    exact ⟨_, _, h, rfl, rfl⟩
  · obtain rfl : v = .int _ _ := by simpa [RepL] using hx
    exact ⟨_, _, h, rfl, rfl⟩
  · simp at h
end
end Go.Ev
