import Derived.Test.YtniigndkhlhlcaaP03
import Derived.WideLaws
import Derived.MapKept
import Derived.Laws.BytesArg
import Derived.Laws.IdiomStrings
set_option linter.all false
/- The abstract evaluator is sound: cells of an array put in. Own work. -/
set_option linter.unusedSimpArgs false
set_option linter.unusedVariables false
namespace Go.Ev
open Go

section
variable {P : Program} {ok : Ok} {μ : Mu} {m : Mem} {w : World}

theorem rowAt_iff {τ : Ty} {xs : List τ.El} {c : Array Value} {base : Nat} : RowAt ok w τ xs c base ↔
    ∀ (i : Nat) (x : τ.El), xs[i]? = some x → ∃ cs, RepT ok w τ x cs ∧ ∀ j u, cs[j]? = some u → c[base + i * τ.width + j]? = some u := by
  constructor
  · intro h i x hx
    obtain ⟨hi, rfl⟩ := List.getElem?_eq_some_iff.mp hx
    exact h i hi
  · intro h i hi
    exact h i _ (List.getElem?_eq_getElem hi)

/-- A list with others from 'p' on. -/
def splice {α : Type} (xs ys : List α) (p : Nat) : List α := xs.take p ++ ys ++ xs.drop (p + ys.length)

theorem cut3 {α : Type} (l : List α) (p n : Nat) : l = l.take p ++ (l.drop p).take n ++ l.drop (p + n) := by
  rw [List.append_assoc, show l.drop (p + n) = (l.drop p).drop n from by rw [List.drop_drop], List.take_append_drop, List.take_append_drop]

theorem jlt {τ : Ty} {x : τ.El} {cs : List Value} (h : RepT ok w τ x cs) {j : Nat} {u : Value} (hj : cs[j]? = some u) : j < τ.width := by
  rw [← RepT.length h]
  rcases Nat.lt_or_ge j cs.length with h | h
  · exact h
  · rw [List.getElem?_eq_none h] at hj; cases hj

theorem rowAt_splice {τ : Ty} {xs ys : List τ.El} {c : Array Value} {base p : Nat} {news : List Value} (hrow : RowAt ok w τ xs c base) (hr : RepAll (RepT ok w τ) ys news) (hp : p ≤ xs.length)
    (hfit : base + (p + ys.length) * τ.width ≤ c.size) : RowAt ok w τ (splice xs ys p) (splice c.toList news (base + p * τ.width)).toArray base := by
  rw [rowAt_iff] at hrow ⊢
  have hnl := RepAll.length (fun _ _ h => RepT.length h) hr
  intro i x hx
  have hcut := cut3 c.toList (base + p * τ.width) news.length
  have hcl : c.toList.length = c.size := Array.length_toList
  have hfit' : base + p * τ.width + ys.length * τ.width ≤ c.size := by rw [Nat.add_mul] at hfit; omega
  have hl1 : (c.toList.take (base + p * τ.width)).length = base + p * τ.width := by simp; omega
  have hl2 : ((c.toList.drop (base + p * τ.width)).take news.length).length = news.length := by simp; omega
  have hlt : (xs.take p).length = p := by simp; omega
  unfold splice at hx
  rw [List.append_assoc] at hx
  rcases Nat.lt_or_ge i p with h | h
  · rw [List.getElem?_append_left (by omega), List.getElem?_take_of_lt h] at hx
    obtain ⟨cs, h1, h2⟩ := hrow i x hx
    refine ⟨cs, h1, fun j u hj => ?_⟩
    have hj' := jlt h1 hj
    have : i * τ.width + τ.width ≤ p * τ.width := by rw [← Nat.succ_mul]; exact Nat.mul_le_mul_right _ h
    simp only [List.getElem?_toArray, splice]
    rw [splice_get hcut hl2 (.inl (by omega)), Array.getElem?_toList]
    exact h2 j u hj
  · rw [List.getElem?_append_right (by omega), hlt] at hx
    rcases Nat.lt_or_ge (i - p) ys.length with h' | h'
    · rw [List.getElem?_append_left h'] at hx
      obtain ⟨_, rfl⟩ := List.getElem?_eq_some_iff.mp hx
      obtain ⟨a, q, b, e, hl, hq⟩ := hr.nth (wd := τ.width) (fun _ _ h => RepT.length h) (i - p) h'
      refine ⟨q, hq, fun j u hj => ?_⟩
      have hmul : i * τ.width = p * τ.width + (i - p) * τ.width := by rw [← Nat.add_mul]; congr 1; omega
      simp only [List.getElem?_toArray, splice]
      have h3 := list_mid e hj
      have := splice_in (c := c.toList.take (base + p * τ.width)) (e := c.toList.drop (base + p * τ.width + news.length)) h3
      rw [← this]
      congr 1
      omega
    · rw [List.getElem?_append_right h', List.getElem?_drop] at hx
      have hpi : p + ys.length + (i - p - ys.length) = i := by omega
      rw [hpi] at hx
      obtain ⟨cs, h1, h2⟩ := hrow i x hx
      refine ⟨cs, h1, fun j u hj => ?_⟩
      have : p * τ.width + ys.length * τ.width ≤ i * τ.width := by rw [← Nat.add_mul]; exact Nat.mul_le_mul_right _ (by omega)
      simp only [List.getElem?_toArray, splice]
      rw [splice_get hcut hl2 (.inr (by omega)), Array.getElem?_toList]
      exact h2 j u hj

theorem RowAt.drop {τ : Ty} {xs : List τ.El} {c : Array Value} {base : Nat} (h : RowAt ok w τ xs c base) (o : Nat) : RowAt ok w τ (xs.drop o) c (base + o * τ.width) := by
  rw [rowAt_iff] at h ⊢
  intro i x hx
  rw [List.getElem?_drop] at hx
  obtain ⟨cs, h1, h2⟩ := h _ x hx
  refine ⟨cs, h1, fun j u hj => ?_⟩
  rw [← h2 j u hj]
  congr 1
  rw [Nat.add_mul]; omega

theorem splice_length {α : Type} (xs ys : List α) {p : Nat} (h : p + ys.length ≤ xs.length) : (splice xs ys p).length = xs.length := by
  simp [splice]; omega
theorem splice_end {α : Type} (xs ys : List α) : splice xs ys xs.length = xs ++ ys := by
  simp [splice]

/-- Where an array with cells lies. -/
theorem arr_place {id : Nat} {τ : Ty} {xs : List τ.El} {ro : Bool} {B base sz : Nat} (hS : Sim ok μ m w) (hid : m.get id = some (.arr τ xs ro)) (hm : μ id = some (some (B, base, sz))) :
    0 < τ.width ∧ ∃ c E fz, w.heap[B]? = some (.cells c E fz) ∧ c.size = sz ∧ FreeT τ fz sz ∧ base + xs.length * τ.width ≤ sz ∧ RowAt ok w τ xs c base ∧ (∀ o, ok B o → ro = true ∧ o < base + xs.length * τ.width) ∧ Spare ok w τ c (base + xs.length * τ.width) := by
  obtain ⟨h0, hO⟩ := hS.objs id _ hid
  refine ⟨h0.1, ?_⟩
  rcases hO with ⟨e, _⟩ | ⟨B', base', sz', c, E, fz, e1, e2, e3, e4, e5, e6, e7, e8⟩
  · rw [e] at hm; simp at hm
  · rw [e1] at hm
    simp only [Option.some.injEq, Prod.mk.injEq] at hm
    obtain ⟨rfl, rfl, rfl⟩ := hm
    exact ⟨c, E, fz, e2, e3, e4, e5, e6, e7, e8⟩

theorem store_splice {B pos : Nat} {c : Array Value} {E : TypeId} {fz : Nat × Nat} {news : List Value} (e2 : w.heap[B]? = some (.cells c E fz)) (e4 : Free fz c.size) (hpos : pos + news.length ≤ c.size) (h1 : ∀ v ∈ news, oneC v = true) :
    (storeCells ⟨B, pos, none⟩ news).run P w = .ok () (w.setRow B (splice c.toList news pos).toArray) := by
  have hcl : c.toList.length = c.size := Array.length_toList
  exact storeCells_run news 0 e2 e4 (cut3 c.toList pos news.length) (by simp; omega) (by simp; omega) h1

theorem cellAt_splice {B pos : Nat} {c : Array Value} {E : TypeId} {fz : Nat × Nat} {news : List Value} (e2 : w.heap[B]? = some (.cells c E fz)) (hpos : pos + news.length ≤ c.size) {p : Nat} (hp : p < pos) :
    cellAt (w.setRow B (splice c.toList news pos).toArray) B p = cellAt w B p := by
  have hcl : c.toList.length = c.size := Array.length_toList
  simp only [cellAt]
  rw [cell_of_cells (setRow_heap w B c _ E fz e2), cell_of_cells e2]
  simp only [List.getElem?_toArray, splice]
  rw [splice_get (cut3 c.toList pos news.length) (by simp; omega) (.inl (by simp; omega)), Array.getElem?_toList]

theorem splice_size {c : Array Value} {news : List Value} {pos : Nat} (hpos : pos + news.length ≤ c.size) : (splice c.toList news pos).toArray.size = c.size := by
  have hcl : c.toList.length = c.size := Array.length_toList
  simp [splice]; omega

/-- Elements written over others. -/
theorem over_move {id : Nat} {τ : Ty} {xs ys : List τ.El} {B base sz p : Nat} {news : List Value} (hS : Sim ok μ m w) (hid : m.get id = some (.arr τ xs false)) (hm : μ id = some (some (B, base, sz)))
    (hr : RepAll (RepT ok w τ) ys news) (hp : p + ys.length ≤ xs.length) :
    ∃ w', (storeCells ⟨B, base + p * τ.width, none⟩ news).run P w = .ok () w' ∧ Move ok μ m w ok μ (m.set id (.arr τ (splice xs ys p) false)) w' := by
  obtain ⟨h0, c, E, fz, e2, e3, e4, e5, e6, e7, e8⟩ := arr_place hS hid hm
  subst e3
  have hnl := RepAll.length (fun _ _ h => RepT.length h) hr
  have hmul : p * τ.width + ys.length * τ.width ≤ xs.length * τ.width := by rw [← Nat.add_mul]; exact Nat.mul_le_mul_right _ hp
  have hpos : base + p * τ.width + news.length ≤ c.size := by omega
  have hone : ∀ v ∈ news, oneC v = true := RepAll.all (fun _ _ h => RepT.one h) hr
  have hnok : ∀ q, ¬ ok B q := fun q hq => by have := (e7 q hq).1; cases this
  refine ⟨_, store_splice e2 e4.free hpos hone, ?_⟩
  have hsh : Shape (.arr τ xs false) (.arr τ (splice xs ys p) false) := .inr ⟨rfl, (splice_length xs ys hp).symm⟩
  have hst := step_set (w' := w.setRow B (splice c.toList news (base + p * τ.width)).toArray) (μ := μ) hid hsh (fun b q hb => cellAt_setRow_ne (fun e => hnok q (e ▸ hb)))
  refine move_write hS ⟨_, hid, rfl⟩ ⟨base, c.size, hm⟩ hid hsh (by simp) (fun b hb => setRow_other w B b _ hb) (fun q hb => absurd hb (hnok q)) ?_
  refine ⟨⟨h0, by rw [splice_length xs ys hp]; exact (hS.objs id _ hid).1.2⟩, .inr ⟨B, base, c.size, _, E, fz, hm, setRow_heap w B c _ E fz e2, splice_size hpos, e4, ?_, ?_, fun q hq => absurd hq (hnok q), ?_⟩⟩
  · rw [splice_length xs ys hp]; exact e5
  · exact (rowAt_splice e6 hr (by omega) (by rw [Nat.add_mul]; omega)).mono hst.grow
  · rw [splice_length xs ys hp]
    refine (e8.mono hst.grow).same (splice_size hpos) fun q hq => ?_
    have hcl : c.toList.length = c.size := Array.length_toList
    simp only [List.getElem?_toArray, splice]
    rw [splice_get (cut3 c.toList (base + p * τ.width) news.length) (by simp; omega) (.inr (by simp; omega)), Array.getElem?_toList]

/-- Elements written behind an array's content: another object in the same block. -/
theorem take_move {id d : Nat} {τ : Ty} {xs ys : List τ.El} {ro : Bool} {B base sz : Nat} {news : List Value} (hS : Sim ok μ m w) (hid : m.get id = some (.arr τ xs ro)) (hm : μ id = some (some (B, base, sz))) (hd : m.get d = none)
    (hr : RepAll (RepT ok w τ) ys news) (hfit : base + (xs.length + ys.length) * τ.width ≤ sz) (o : Nat) (ho : o ≤ xs.length) (hbig : (xs.drop o ++ ys).length ≤ big) :
    ∃ w', (storeCells ⟨B, base + xs.length * τ.width, none⟩ news).run P w = .ok () w' ∧
      Move ok μ m w ok (μ.put d (some (B, base + o * τ.width, sz))) ((m.set id .dead).set d (.arr τ (xs.drop o ++ ys) ro)) w' := by
  obtain ⟨h0, c, E, fz, e2, e3, e4, e5, e6, e7, e8⟩ := arr_place hS hid hm
  subst e3
  have hnl := RepAll.length (fun _ _ h => RepT.length h) hr
  have hfit' : base + xs.length * τ.width + ys.length * τ.width ≤ c.size := by rw [Nat.add_mul] at hfit; omega
  have hpos : base + xs.length * τ.width + news.length ≤ c.size := by omega
  have hone : ∀ v ∈ news, oneC v = true := RepAll.all (fun _ _ h => RepT.one h) hr
  have hg : ∀ b q, ok b q → cellAt (w.setRow B (splice c.toList news (base + xs.length * τ.width)).toArray) b q = cellAt w b q := by
    intro b q hb
    by_cases e : b = B
    · subst e; exact cellAt_splice e2 hpos (e7 q hb).2
    · exact cellAt_setRow_ne e
  refine ⟨_, store_splice e2 e4.free hpos hone, ?_⟩
  have hrow := rowAt_splice e6 hr (Nat.le_refl _) (by rw [Nat.add_mul]; omega)
  rw [splice_end] at hrow
  have hrow := hrow.drop o
  rw [List.drop_append_of_le_length ho] at hrow
  have hgr : Grow ok w ok (w.setRow B (splice c.toList news (base + xs.length * τ.width)).toArray) := ⟨fun _ _ h => h, hg⟩
  have hlen : base + o * τ.width + (xs.drop o ++ ys).length * τ.width = base + xs.length * τ.width + ys.length * τ.width := by
    simp only [List.length_append, List.length_drop, Nat.add_mul, Nat.sub_mul]
    have : o * τ.width ≤ xs.length * τ.width := Nat.mul_le_mul_right _ ho
    omega
  refine move_take hS hid rfl ⟨base, c.size, hm⟩ hd (by simp) (fun b hb => setRow_other w B b _ hb) (fun q hb => hg B q hb) ?_
  refine ⟨⟨h0, hbig⟩, .inr ⟨B, base + o * τ.width, c.size, _, E, fz, Mu.put_self _ _ _, setRow_heap w B c _ E fz e2, splice_size hpos, e4, by rw [hlen]; omega, hrow.mono hgr, fun q hq => ?_, ?_⟩⟩
  · have := e7 q hq
    exact ⟨this.1, by rw [hlen]; omega⟩
  · rw [hlen]
    obtain ⟨y0, g1, g2⟩ := e8
    have hle : ys.length * τ.width ≤ y0.length * τ.width := by omega
    have hle' : ys.length ≤ y0.length := Nat.le_of_mul_le_mul_right hle h0
    have : Spare ok w τ c (base + xs.length * τ.width + ys.length * τ.width) := by
      refine ⟨y0.drop ys.length, ?_, g2.drop ys.length⟩
      rw [List.length_drop, Nat.sub_mul]
      omega
    refine (this.mono hgr).same (splice_size hpos) fun q hq => ?_
    have hcl : c.toList.length = c.size := Array.length_toList
    simp only [List.getElem?_toArray, splice]
    rw [splice_get (cut3 c.toList (base + xs.length * τ.width) news.length) (by simp; omega) (.inr (by simp; omega)), Array.getElem?_toList]

theorem move_same {m' : Mem} (hS : Sim ok μ m w) (h : ∀ i, m'.get i = m.get i) : Move ok μ m w ok μ m' w := by
  have hst : Step ok μ m w ok μ m' w := ⟨Grow.refl _ _, fun _ _ h => h, fun i o ho => ⟨o, by rw [h]; exact ho, Shape.refl o⟩⟩
  have hl : ∀ i, Live m' i → Live m i := fun i ⟨o, h1, h2⟩ => ⟨o, by rw [← h]; exact h1, h2⟩
  refine move_of hS hst (Nat.le_refl _) (fun i => by rw [h]; exact hS.dom i) (fun i o ho => .inr ⟨by rw [← h]; exact ho, fun B _ => ⟨rfl, fun p hp => hp⟩⟩)
    (fun i j B hi hj => hS.sep i j B (hl i hi) (hl j hj)) hS.okb hS.blk (fun i B hi hB => .inl ⟨i, hl i hi, hB⟩) (fun _ _ _ => rfl) (fun b o h => .inl h)

end
end Go.Ev

/- The abstract evaluator is sound: append. Own work. -/
set_option linter.unusedSimpArgs false
set_option linter.unusedVariables false
set_option maxHeartbeats 1000000
namespace Go.Ev
open Go

section
variable {P : Program} {ok : Ok} {μ : Mu} {m : Mem} {w : World}

/-- What append takes: n elements, these cells; in every world with this memory. -/
def Takes (P : Program) (w : World) (t' : TypeId) (i : TypeInfo) (z : Value) (x : Value) (n : Nat) (news : List Value) : Prop :=
  ∃ D, P.underlying t' = some D ∧
  ((isIntD D = false ∧ (∀ w', (Builtin.lenOf x).run P w' = .ok n w') ∧ ∀ w' : World, w'.heap = w.heap → (Builtin.firstCells i.size n x).run P w' = .ok news.toArray w') ∨
   (isIntD D = true ∧ x = .int .i64 n ∧ n ≤ 1099511627776 ∧ n * i.bytes ≤ 70368744177664 ∧ news = (Builtin.zeroCells z.cells n).toList ∧ z.cells.size = i.size))

theorem hint (D : TypeDesc) : Builtin.append_.match_1 (fun _ => Bool) D (fun _ => true) (fun _ => false) = isIntD D := by cases D <;> rfl

theorem append_fit {t t' ty e : TypeId} {i : TypeInfo} {z : Value} {x : Value} {n sLen sCap : Nat} {news : List Value} {base : Option Addr} {w' : World} (hu : P.underlying t = some (.slice e)) (hi : P.info? e = some i) (hz : i.zero = some z)
    (hx : Takes P w t' i z x n news) (hfit : sLen + n ≤ sCap) (hst : ∀ a, base = some a → (storeCells (a.add (sLen * i.size)) news).run P w = .ok () w') (hno : base = none → w' = w) :
    (Builtin.append_ #[t, t'] ty #[.slice base sLen sCap, x]).run P w = .ok (.slice base (sLen + n) sCap) w' := by
  obtain ⟨D, hD, h⟩ := hx
  rcases h with ⟨hd, hl, hf⟩ | ⟨hd, rfl, hn, hb, hnews, hzs⟩
  · have hfw := hf w rfl
    cases base with
    | none => simp [hint, hd, Builtin.append_, run_underlying hu, run_underlying hD, sizeOf, typeInfo, hi, hl, hfit, hfw, hno rfl]
    | some a => simp [hint, hd, Builtin.append_, run_underlying hu, run_underlying hD, sizeOf, typeInfo, hi, hl, hfit, hfw, hst a rfl]
  · obtain ⟨κ, rfl⟩ : ∃ κ, D = .int κ := by cases D <;> simp [isIntD] at hd; exact ⟨_, rfl⟩
    have wl : IntKind.i64.wrap (n : Int) = n := by rw [IntKind.wrap_i64]; omega
    have n1 : ¬ ((n : Int) < 0) := by omega
    have n2 : ¬ (281474976710656 < (n : Int) * i.bytes) := by omega
    have hnews' : (Builtin.zeroCells z.cells n).toList = news := hnews.symm
    have h0 : n * i.size = 0 → news = [] := by
      intro h0
      rw [hnews]
      exact List.length_eq_zero_iff.mp (by simp [size_zeroCells, hzs, h0])
    by_cases hz0 : n * i.size = 0
    · have := h0 hz0
      subst this
      cases base with
      | none => simp [Builtin.append_, run_underlying hu, run_underlying hD, sizeOf, typeInfo, hi, wl, n1, n2, hfit, hz0, asInt, asIntOf, hno rfl]
      | some a =>
        have := hst a rfl
        simp [Builtin.append_, run_underlying hu, run_underlying hD, sizeOf, typeInfo, hi, wl, n1, n2, hfit, hz0, asInt, asIntOf, this]
    · cases base with
      | none => simp [Builtin.append_, run_underlying hu, run_underlying hD, sizeOf, typeInfo, zeroValue, hi, hz, wl, n1, n2, hfit, hz0, asInt, asIntOf, hno rfl]
      | some a =>
        have := hst a rfl
        simp [Builtin.append_, run_underlying hu, run_underlying hD, sizeOf, typeInfo, zeroValue, hi, hz, wl, n1, n2, hfit, hz0, asInt, asIntOf, hnews', this]

theorem append_new {t t' ty e : TypeId} {i : TypeInfo} {z : Value} {x : Value} {n sLen sCap : Nat} {olds news : List Value} {base : Option Addr} (hu : P.underlying t = some (.slice e)) (hi : P.info? e = some i) (hz : i.zero = some z)
    (hx : Takes P w t' i z x n news) (hgrow : sCap < sLen + n) (hold : ∀ w' : World, w'.heap = w.heap → (Builtin.firstCells i.size sLen (.slice base sLen sCap)).run P w' = .ok olds.toArray w')
    (hb : (sLen + n) * i.bytes ≤ 70368744177664) (h40 : sLen + n ≤ 1099511627776) :
    (Builtin.append_ #[t, t'] ty #[.slice base sLen sCap, x]).run P w =
      .ok (.slice (some ⟨w.heap.size, 0, none⟩) (sLen + n) (grownCap w (sLen + n) sCap e)) (w.drew.alloc (.cells (olds ++ news ++ (Builtin.zeroCells z.cells (grownCap w (sLen + n) sCap e - (sLen + n))).toList).toArray e)) := by
  obtain ⟨D, hD, h⟩ := hx
  have hnf : ¬ (sLen + n ≤ sCap) := by omega
  have h63 : ¬ (9223372036854775807 < ((sLen : Int) + (n : Int))) := by omega
  have hcapfit := growslice_fits (need := sLen + n) (old := sCap) (bytes := i.bytes) hgrow (by omega)
  have h48 : ¬ (281474976710656 < Builtin.nextslicecap (sLen + n) sCap * i.bytes) := by omega
  have hfo := hold w.drew rfl
  rcases h with ⟨hd, hl, hf⟩ | ⟨hd, rfl, hn, hbn, hnews, hzs⟩
  · have hfw := hf w.drew rfl
    simp [hint, hd, Builtin.append_, run_underlying hu, run_underlying hD, sizeOf, typeInfo, zeroValue, hi, hz, hl, hnf, h63, h48, hfw, hfo, Question.forced, newRow, grownCap]
    congr 2
    apply Array.ext'
    simp [List.append_assoc]
  · obtain ⟨κ, rfl⟩ : ∃ κ, D = .int κ := by cases D <;> simp [isIntD] at hd; exact ⟨_, rfl⟩
    have wl : IntKind.i64.wrap (n : Int) = n := by rw [IntKind.wrap_i64]; omega
    have n1 : ¬ ((n : Int) < 0) := by omega
    have n2 : ¬ (281474976710656 < (n : Int) * i.bytes) := by omega
    have h0 : n * i.size = 0 → news = [] := by
      intro h0
      rw [hnews]
      exact List.length_eq_zero_iff.mp (by simp [size_zeroCells, hzs, h0])
    by_cases hz0 : n * i.size = 0
    · have := h0 hz0
      subst this
      simp [Builtin.append_, run_underlying hu, run_underlying hD, sizeOf, typeInfo, zeroValue, hi, hz, wl, n1, n2, hnf, h63, h48, hz0, asInt, asIntOf, hfo, Question.forced, newRow, grownCap]
      congr 2
      apply Array.ext'
      simp [List.append_assoc]
    · simp [Builtin.append_, run_underlying hu, run_underlying hD, sizeOf, typeInfo, zeroValue, hi, hz, wl, n1, n2, hnf, h63, h48, hz0, asInt, asIntOf, hfo, hnews, Question.forced, newRow, grownCap]
      congr 2
      apply Array.ext'
      simp [List.append_assoc]

end
end Go.Ev

/- The abstract evaluator is sound: append, the memory's side. Own work. -/
set_option linter.unusedSimpArgs false
set_option linter.unusedVariables false
namespace Go.Ev
open Go

section
variable {P : Program} {ok : Ok} {μ : Mu} {m : Mem} {w : World}

theorem Runs.mono {s : Sem Next} {R R' : Value → World → Prop} (h : Runs P s w R) (hr : ∀ v w', R v w' → R' v w') : Runs P s w R' := by
  unfold Runs at h ⊢
  split at h
  · exact hr _ _ h
  · exact hr _ _ h
  · exact h.mono (fun e w'' ⟨v, h1, h2⟩ => ⟨v, h1, hr _ _ h2⟩)
  · exact h.elim

theorem cell_heap {w' : World} (h : w'.heap = w.heap) (a : Addr) : w'.cell? a = w.cell? a := by simp [World.cell?, h]

theorem sees_first {τ : Ty} {xs : List τ.El} {v : Value} (h : Sees ok w τ xs v) : ∃ a cap cs, v = .slice a xs.length cap ∧ xs.length ≤ cap ∧ (a = none → cap = 0) ∧ RepAll (RepT ok w τ) xs cs ∧
    ∀ (n : Nat), n ≤ xs.length → ∀ w' : World, w'.heap = w.heap → (Builtin.firstCells τ.width n v).run P w' = .ok (cs.take (n * τ.width)).toArray w' := by
  obtain ⟨a, cap, cs, rfl, h1, h2, h3, h4⟩ := h
  refine ⟨a, cap, cs, rfl, h1.1, h2, h3, fun n hn w' hh => ?_⟩
  have hl := RepAll.length (fun _ _ h => RepT.length h) h3
  cases a with
  | none =>
    have : xs = [] := List.length_eq_zero_iff.mp (by have := h2 rfl; omega)
    subst this
    simp only [List.length_nil, Nat.zero_mul] at hl
    have : cs = [] := List.length_eq_zero_iff.mp hl
    subst this
    rw [run_firstCells_none]
    simp
  | some ad =>
    have hmul : n * τ.width ≤ xs.length * τ.width := Nat.mul_le_mul_right _ hn
    refine run_firstCells_some w' τ.width n ad xs.length cap _ (by simp; omega) ?_
    intro j u hj
    obtain ⟨hs, h5⟩ := h4 ad rfl
    have hlt : j < n * τ.width := by
      rcases Nat.lt_or_ge j (n * τ.width) with h | h
      · exact h
      · rw [List.getElem?_eq_none (by simp; omega)] at hj; cases hj
    rw [List.getElem?_take_of_lt hlt] at hj
    rcases hs with rfl | hs
    · simp at hmul; omega
    · obtain ⟨B, o, sp⟩ := ad
      simp only at hs
      subst hs
      rw [addr_add, cell_heap hh]
      exact h5 j u hj

theorem sees_take {τ : Ty} {xs : List τ.El} {v : Value} {i : TypeInfo} {z : Value} {t' : TypeId} {D : TypeDesc} (hsz : i.size = τ.width) (hD : P.underlying t' = some D) (hd : isIntD D = false) (h : Sees ok w τ xs v) :
    ∃ cs, RepAll (RepT ok w τ) xs cs ∧ Takes P w t' i z v xs.length cs := by
  obtain ⟨a, cap, cs, rfl, h1, h2, h3, h4⟩ := sees_first (P := P) h
  have hl := RepAll.length (fun _ _ h => RepT.length h) h3
  refine ⟨cs, h3, D, hD, .inl ⟨hd, fun _ => rfl, fun w' hh => ?_⟩⟩
  have := h4 xs.length (Nat.le_refl _) w' hh
  rw [hsz, this, List.take_of_length_le (by omega)]

theorem strEls_rep {s : List UInt8} : RepAll (RepT ok w (.int .u8)) (strEls s) (s.map fun b => Value.int .u8 (b.toNat : Int)) := by
  induction s with
  | nil => rfl
  | cons b s ih => exact ⟨[_], _, rfl, rfl, ih⟩

theorem source_sound {τ : Ty} {l : Leaf} {v : Value} {k : List τ.El → R} {r : AV × Mem} {i : TypeInfo} {z : Value} {t' : TypeId} {D : TypeDesc} (hS : Sim ok μ m w) (hl : RepL ok μ m w l [v])
    (hsz : i.size = τ.width) (hD : P.underlying t' = some D) (hd : isIntD D = false) (h : sourceK m τ l k = some r) :
    ∃ ys news, k ys = some r ∧ RepAll (RepT ok w τ) ys news ∧ Takes P w t' i z v ys.length news := by
  unfold sourceK at h
  split at h
  · rename_i s
    split at h
    · rename_i e
      subst e
      obtain ⟨b, e, hb, _⟩ := hl
      simp only [List.cons.injEq, and_true] at e
      subst e
      refine ⟨_, _, h, strEls_rep, D, hD, .inl ⟨hd, fun _ => ?_, fun w' _ => ?_⟩⟩
      · have : b.size = (strEls s).length := by rw [← hb]; simp [strEls]
        simp [Builtin.lenOf, this]
      · have hx : (Array.map (fun b : UInt8 => Value.int IntKind.u8 (b.toNat : Int)) b.data).extract 0 (strEls s).length = Array.map (fun b : UInt8 => Value.int IntKind.u8 (b.toNat : Int)) b.data := by
          have hs : (strEls s).length = (Array.map (fun b : UInt8 => Value.int IntKind.u8 (b.toNat : Int)) b.data).size := by rw [Array.size_map, ← hb]; simp [strEls]
          rw [hs, Array.extract_size]
        have hy : (s.map fun b => Value.int .u8 (b.toNat : Int)).toArray = Array.map (fun b : UInt8 => Value.int IntKind.u8 (b.toNat : Int)) b.data := by
          rw [← hb]; apply Array.ext'; simp
        rw [hy]
        simp [Builtin.firstCells, hx]
    · simp at h
  · obtain ⟨xs, h1, h2⟩ := seesAs_sound hS hl h
    obtain ⟨cs, h3, h4⟩ := sees_take (P := P) (i := i) (z := z) hsz hD hd h2
    exact ⟨xs, cs, h1, h3, h4⟩

theorem zeros_sound {τ : Ty} {n : Int} {e t' : TypeId} {i : TypeInfo} {z : Value} {D : TypeDesc} (hi : P.info? e = some i) (hsz : i.size = τ.width) (hzs : z.cells.size = τ.width) (hT : RepT ok w τ τ.dflt z.cells.toList) (hD : P.underlying t' = some D) (hd : isIntD D = true)
    (h0 : 0 ≤ n) (h1 : n ≤ 1099511627776) (h2 : n * bytesTy P e ≤ 70368744177664) :
    ∃ news, RepAll (RepT ok w τ) (List.replicate n.toNat τ.dflt) news ∧ Takes P w t' i z (.int .i64 n) (List.replicate n.toNat τ.dflt).length news := by
  refine ⟨(Builtin.zeroCells z.cells n.toNat).toList, ?_, D, hD, .inr ⟨hd, ?_, ?_, ?_, by simp, by omega⟩⟩
  · have := made_rep (n := n.toNat) hzs hT
    rw [← hzs] at this
    simpa [Builtin.zeroCells, madeCells] using this
  · simp; omega
  · simp; omega
  · simp only [List.length_replicate]
    simp only [bytesTy, hi] at h2
    have : ((n.toNat * i.bytes : Nat) : Int) = n * i.bytes := by rw [Int.natCast_mul]; congr 1; omega
    omega

/-! ### new arrays -/
theorem Sees.slice {τ : Ty} {xs : List τ.El} {v : Value} (h : Sees ok w τ xs v) : ∃ a cap, v = .slice a xs.length cap ∧ xs.length ≤ cap := by
  obtain ⟨a, cap, _, e, h, _⟩ := h; exact ⟨a, cap, e, h.1⟩

theorem fits_some {e : TypeId} {i : TypeInfo} (hi : P.info? e = some i) {n : Nat} (h : fits P e n = true) : n * i.bytes ≤ 70368744177664 ∧ n ≤ 1099511627776 := by
  simpa [fits, bytesTy, hi] using h

theorem grow_sound {d : Option Tmp} {t t' ty e : TypeId} {τ : Ty} {i : TypeInfo} {z : Value} {xs ys : List τ.El} {a : Option Addr} {sCap : Nat} {vx : Value} {news : List Value} {ro : Bool} {k : AV → Mem → R} {r : AV × Mem} (hS : Sim ok μ m w)
    (hu : P.underlying t = some (.slice e)) (hi : P.info? e = some i) (hz : i.zero = some z) (hsz : i.size = τ.width) (hzs : z.cells.size = τ.width) (hT : ∀ (ok : Ok) (w : World), RepT ok w τ τ.dflt z.cells.toList) (hpos : 0 < τ.width)
    (hs : Sees ok w τ xs (.slice a xs.length sCap)) (hr : RepAll (RepT ok w τ) ys news) (hx : Takes P w t' i z vx ys.length news) (hgrow : sCap < xs.length + ys.length) (hf : fits P e (xs ++ ys).length = true)
    (h : allocAt m d (.arr τ (xs ++ ys) ro) (fun id m' => k (.one (.ref id (.tail 0) none)) m') = some r) :
    Runs P (do pure (.value (← Builtin.append_ #[t, t'] ty #[.slice a xs.length sCap, vx]))) w (Post ok μ m w k r) := by
  obtain ⟨a', cap', olds, e1, _, _, hro, hold⟩ := sees_first (P := P) hs
  have hlo := RepAll.length (fun _ _ h => RepT.length h) hro
  have hln := RepAll.length (fun _ _ h => RepT.length h) hr
  obtain ⟨hb, h40⟩ := fits_some hi hf
  simp only [List.length_append] at hb h40
  have hrun := append_new (ty := ty) (olds := olds) hu hi hz hx hgrow (fun w' hh => by
    have := hold xs.length (Nat.le_refl _) w' hh
    rw [hsz, this, List.take_of_length_le (by omega)]) hb h40
  refine Runs.value hrun ?_
  have hmv := move_draw (w' := w.drew) hS rfl
  have hgr := hmv.step.grow
  have hcap := grownCap_ge w (xs.length + ys.length) sCap e
  refine Post.move hmv ?_
  have hall : RepAll (RepT ok w.drew τ) (xs ++ ys) (olds ++ news) := RepAll.mono (fun _ _ h => RepT.mono hgr h) (hro.append hr)
  have := alloc_arr (lim := none) (cap := grownCap w (xs.length + ys.length) sCap e) (cs := (olds ++ news ++ (Builtin.zeroCells z.cells (grownCap w (xs.length + ys.length) sCap e - (xs.length + ys.length))).toList).toArray) (rest := (Builtin.zeroCells z.cells (grownCap w (xs.length + ys.length) sCap e - (xs.length + ys.length))).toList)
    hmv.sim ⟨hpos, by simp only [List.length_append, big]; omega⟩ hall (by simp) (by
      have hsz := size_zeroCells z.cells (grownCap w (xs.length + ys.length) sCap e - (xs.length + ys.length))
      simp only [List.size_toArray, List.length_append, Array.length_toList, hsz, hlo, hln, hzs, Nat.sub_mul, Nat.add_mul]
      have : (xs.length + ys.length) * τ.width ≤ grownCap w (xs.length + ys.length) sCap e * τ.width := Nat.mul_le_mul_right _ hcap
      rw [Nat.add_mul] at this
      omega) (by simpa using hcap) (by simp) h e ⟨List.replicate _ τ.dflt, by
      have := made_rep (n := grownCap w (xs.length + ys.length) sCap e - (xs.length + ys.length)) hzs (hT ok w.drew)
      rw [← hzs] at this
      exact this⟩
  rw [List.length_append] at this
  exact this

theorem alloc_empty {d : Option Tmp} {τ : Ty} {ro : Bool} {lim : Option Nat} {a : Option Addr} {k : AV → Mem → R} {r : AV × Mem} (hS : Sim ok μ m w) (hw : 0 < τ.width) (hlim : ∀ c, lim = some c → 0 = c)
    (h : allocAt m d (.arr τ [] ro) (fun id m' => k (.one (.ref id (.tail 0) lim)) m') = some r) : Post ok μ m w k r (.slice a 0 0) w := by
  obtain ⟨i, rfl, hid, h⟩ := allocAt_some h
  refine ⟨_, ok, _, _, h, move_empty hS hid hw ro, _, rfl, by rw [Mu.put_self]; simp, ?_⟩
  simp only [Mem.get_set_self, Option.bind_some, Obj.row]
  exact ⟨a, 0, by simp [View.lenN], by simp [View.off, View.lenN], by simp [View.lenN], hlim, by simp, .inr ⟨by simp [View.lenN], rfl⟩⟩

theorem new_nil {d : Option Tmp} {t t' ty e : TypeId} {τ : Ty} {i : TypeInfo} {z : Value} {ys : List τ.El} {a : Option Addr} {vx : Value} {news : List Value} {k : AV → Mem → R} {r : AV × Mem} (hS : Sim ok μ m w)
    (hu : P.underlying t = some (.slice e)) (hi : P.info? e = some i) (hz : i.zero = some z) (hsz : i.size = τ.width) (hzs : z.cells.size = τ.width) (hT : ∀ (ok : Ok) (w : World), RepT ok w τ τ.dflt z.cells.toList) (hpos : 0 < τ.width)
    (hr : RepAll (RepT ok w τ) ys news) (hx : Takes P w t' i z vx ys.length news) (hf : fits P e ys.length = true)
    (h : allocAt m d (.arr τ ys false) (fun id m' => k (.one (.ref id (.tail 0) none)) m') = some r) :
    Runs P (do pure (.value (← Builtin.append_ #[t, t'] ty #[.slice a 0 0, vx]))) w (Post ok μ m w k r) := by
  rcases Nat.eq_zero_or_pos ys.length with h0 | h0
  · have : ys = [] := List.length_eq_zero_iff.mp h0
    subst this
    have : news = [] := hr
    subst this
    have hrun := append_fit (ty := ty) (base := a) (sLen := 0) (sCap := 0) (w' := w) hu hi hz hx (by simp) (fun _ _ => rfl) (fun _ => rfl)
    exact Runs.value hrun (alloc_empty hS hpos (by simp) h)
  · have hs : Sees ok w τ [] (.slice a ([] : List τ.El).length 0) := ⟨a, 0, [], rfl, by simp, fun _ => rfl, rfl, fun ad _ => ⟨.inl rfl, by simp⟩⟩
    exact grow_sound (xs := []) hS hu hi hz hsz hzs hT hpos hs hr hx (by simpa using h0) hf h

end
end Go.Ev

/- The abstract evaluator is sound: append on the call's own arrays. Own work. -/
set_option linter.unusedSimpArgs false
set_option linter.unusedVariables false
namespace Go.Ev
open Go

section
variable {P : Program} {ok : Ok} {μ : Mu} {m : Mem} {w : World}

theorem runs_of_fit {t t' ty e : TypeId} {i : TypeInfo} {z : Value} {vx : Value} {n sLen sCap : Nat} {news : List Value} {a : Option Addr} {w' : World} {R : Value → World → Prop} (hu : P.underlying t = some (.slice e)) (hi : P.info? e = some i) (hz : i.zero = some z)
    (hx : Takes P w t' i z vx n news) (hfit : sLen + n ≤ sCap) (hst : ∀ ad, a = some ad → (storeCells (ad.add (sLen * i.size)) news).run P w = .ok () w') (hno : a = none → w' = w) (hR : R (.slice a (sLen + n) sCap) w') :
    Runs P (do pure (.value (← Builtin.append_ #[t, t'] ty #[.slice a sLen sCap, vx]))) w R :=
  Runs.value (append_fit (ty := ty) hu hi hz hx hfit hst hno) hR

/-- An own slice's value: what is known of it. -/
theorem ref_facts {id : Nat} {v : View} {lim : Option Nat} {u : Value} {τ : Ty} {xs : List τ.El} {ro : Bool} (hb : RepL ok μ m w (.ref id v lim) [u]) (hid : m.get id = some (.arr τ xs ro)) :
    RepRef μ id τ.width xs.length v.off (v.lenN xs.length) lim u := by
  obtain ⟨u', e, _, h⟩ := hb
  simp only [List.cons.injEq, and_true] at e
  subst e
  simpa [hid, Obj.row] using h

theorem dead_get {id d : Nat} (hid : (m.get id).isSome) (h : (m.set id .dead).get d = none) : m.get d = none ∧ id ≠ d := by
  rw [Mem.get_set] at h
  by_cases e : id = d
  · simp [e] at h
  · simp only [if_neg e] at h; exact ⟨h, e⟩

/-- An own array that grows within its room. -/
theorem grown_fit {d : Option Tmp} {t t' ty e : TypeId} {τ : Ty} {i : TypeInfo} {z : Value} {xs ys : List τ.El} {id o : Nat} {lim : Option Nat} {ro : Bool} {a : Option Addr} {sLen sCap : Nat} {vx : Value} {news : List Value} {k : AV → Mem → R} {r : AV × Mem} (hS : Sim ok μ m w)
    (hu : P.underlying t = some (.slice e)) (hi : P.info? e = some i) (hz : i.zero = some z) (hsz : i.size = τ.width)
    (hid : m.get id = some (.arr τ xs ro)) (hlen : sLen = xs.length - o) (ho : o + sLen ≤ xs.length) (hpl : (∃ B base sz, μ id = some (some (B, base, sz)) ∧ a = some ⟨B, base + o * τ.width, none⟩ ∧ base + (o + sCap) * τ.width ≤ sz) ∨ (sLen = 0 ∧ sCap = 0)) (hsc : sLen ≤ sCap)
    (hμ : μ id ≠ none) (hr : RepAll (RepT ok w τ) ys news) (hx : Takes P w t' i z vx ys.length news) (hfit : sLen + ys.length ≤ sCap)
    {o' : Nat} {zs : List τ.El} (hcase : (lim = none ∧ o' = 0 ∧ zs = xs.drop o ++ ys) ∨ (lim = some sCap ∧ o' = o ∧ zs = xs ++ ys)) (hbz : zs.length ≤ big)
    (h : allocAt (m.set id .dead) d (.arr τ zs ro) (fun id' m' => k (.one (.ref id' (.tail o') lim)) m') = some r) :
    Runs P (do pure (.value (← Builtin.append_ #[t, t'] ty #[.slice a sLen sCap, vx]))) w (Post ok μ m w k r) := by
  obtain ⟨j, rfl, hj, h⟩ := allocAt_some h
  obtain ⟨hjn, hne⟩ := dead_get (by simp [hid]) hj
  have hpos : 0 < τ.width := (hS.objs id _ hid).1.1
  have hlim : ∀ c, lim = some c → sCap = c := by
    rcases hcase with ⟨rfl, _⟩ | ⟨rfl, _⟩ <;> simp
  have hn : o' + (zs.length - o') = zs.length ∧ zs.length - o' = sLen + ys.length ∧ (lim = none → zs.length ≤ o' + sCap) := by
    rcases hcase with ⟨rfl, rfl, rfl⟩ | ⟨rfl, rfl, rfl⟩
    · simp; omega
    · simp; omega
  -- where it lies
  cases hm : μ id with
  | none => exact absurd hm hμ
  | some pl =>
    cases pl with
    | none =>
      have hxs : xs = [] := by
        obtain ⟨_, hO⟩ := hS.objs id _ hid
        rcases hO with ⟨_, h⟩ | ⟨B', base', sz', c, E, fz, e1, _⟩
        · exact h
        · rw [hm] at e1; simp at e1
      have h0 : sLen = 0 ∧ sCap = 0 := by
        rcases hpl with ⟨B, base, sz, e1, _⟩ | h
        · rw [hm] at e1; simp at e1
        · exact h
      have hys : ys = [] := List.length_eq_zero_iff.mp (by omega)
      have hnews : news = [] := by subst hys; exact hr
      subst hxs hys hnews
      have ho0 : o = 0 := by simp at ho; omega
      have hz0 : zs = [] := by rcases hcase with ⟨_, _, rfl⟩ | ⟨_, _, rfl⟩ <;> simp
      have ho'0 : o' = 0 := by rcases hcase with ⟨_, e, _⟩ | ⟨_, e, _⟩ <;> omega
      subst hz0 ho'0
      have hmd := move_dead hS hid
      have hme := move_empty hmd.sim hj hpos ro
      refine runs_of_fit (w' := w) hu hi hz hx hfit (fun _ _ => rfl) (fun _ => rfl) ⟨_, ok, _, _, h, hmd.trans hme, _, rfl, by rw [Mu.put_self]; simp, ?_⟩
      simp only [Mem.get_set_self, Option.bind_some, Obj.row]
      exact ⟨a, sCap, by simp [View.lenN, h0], by simp [View.off, View.lenN], by simp [View.lenN], hlim, by simp, .inr ⟨by simp [View.lenN], h0.2⟩⟩
    | some pl =>
      obtain ⟨B, base, sz⟩ := pl
      obtain ⟨_, c, E, fz, e2, e3, e4, e5, e6, e7, e8⟩ := arr_place hS hid hm
      -- how far to cut
      obtain ⟨q, hq, hzs, hqo⟩ : ∃ q, q ≤ xs.length ∧ zs = xs.drop q ++ ys ∧ q + o' = o := by
        rcases hcase with ⟨_, rfl, rfl⟩ | ⟨_, rfl, rfl⟩
        · exact ⟨o, by omega, rfl, by omega⟩
        · exact ⟨0, by omega, by simp, by omega⟩
      have hroom : base + (xs.length + ys.length) * τ.width ≤ sz := by
        rcases hpl with ⟨B', base', sz', e1, _, h2⟩ | ⟨h1, h2⟩
        · rw [hm] at e1
          simp only [Option.some.injEq, Prod.mk.injEq] at e1
          obtain ⟨rfl, rfl, rfl⟩ := e1
          have : (xs.length + ys.length) * τ.width ≤ (o + sCap) * τ.width := Nat.mul_le_mul_right _ (by omega)
          omega
        · have : ys.length = 0 := by omega
          rw [this]; simpa using e5
      obtain ⟨w', hst, hmv⟩ := take_move (P := P) hS hid hm hjn hr hroom q hq (by rw [← hzs]; exact hbz)
      rw [← hzs] at hmv
      have hval : ∀ ad, a = some ad → (storeCells (ad.add (sLen * i.size)) news).run P w = .ok () w' := by
        rintro ad rfl
        rcases hpl with ⟨B', base', sz', e1, e, h2⟩ | ⟨h1, h2⟩
        · rw [hm] at e1
          simp only [Option.some.injEq, Prod.mk.injEq] at e1
          obtain ⟨rfl, rfl, rfl⟩ := e1
          cases e
          rw [addr_add, hsz, show base + o * τ.width + sLen * τ.width = base + xs.length * τ.width from by
            rw [Nat.add_assoc, ← Nat.add_mul]; congr 2; omega]
          exact hst
        · have hys : ys = [] := List.length_eq_zero_iff.mp (by omega)
          subst hys
          have hnews : news = [] := hr
          subst hnews
          exact hst
      have hno : a = none → w' = w := by
        rintro rfl
        rcases hpl with ⟨B', base', sz', e1, e, h2⟩ | ⟨h1, h2⟩
        · cases e
        · have hys : ys = [] := List.length_eq_zero_iff.mp (by omega)
          subst hys
          have hnews : news = [] := hr
          subst hnews
          have : (Result.ok () w : Result Unit) = .ok () w' := hst
          injection this with _ h
          exact h.symm
      refine runs_of_fit (w' := w') hu hi hz hx hfit hval hno ⟨_, ok, _, _, h, hmv, _, rfl, by rw [Mu.put_self]; simp, ?_⟩
      simp only [Mem.get_set_self, Option.bind_some, Obj.row]
      refine ⟨a, sCap, by simp only [View.lenN]; rw [hn.2.1], by simp only [View.off, View.lenN]; omega, by simp only [View.lenN]; omega, hlim, fun hl => by simp only [View.off]; exact hn.2.2 hl, ?_⟩
      rcases hpl with ⟨B', base', sz', e1, e, h2⟩ | ⟨h1, h2⟩
      · rw [hm] at e1
        simp only [Option.some.injEq, Prod.mk.injEq] at e1
        obtain ⟨rfl, rfl, rfl⟩ := e1
        refine .inl ⟨B, base + q * τ.width, sz, Mu.put_self _ _ _, ?_, ?_⟩
        · rw [e]; simp only [View.off]; rw [Nat.add_assoc, ← Nat.add_mul, hqo]
        · simp only [View.off]
          rw [Nat.add_assoc, ← Nat.add_mul, ← Nat.add_assoc, hqo]; exact h2
      · exact .inr ⟨by simp only [View.lenN]; omega, h2⟩

end
end Go.Ev

/- The abstract evaluator is sound: append, whole. Own work. -/
set_option linter.unusedSimpArgs false
set_option linter.unusedVariables false
namespace Go.Ev
open Go

section
variable {P : Program} {ok : Ok} {μ : Mu} {m : Mem} {w : World}

theorem splice_nil {α : Type} (xs : List α) (p : Nat) : splice xs [] p = xs := by simp [splice]

theorem set_same {id : Nat} {o : Obj} (h : m.get id = some o) (i : Nat) : (m.set id o).get i = m.get i := by
  rw [Mem.get_set]
  split
  · rename_i e; rw [← e, h]
  · rfl

/-- Elements over the room that an own array has. -/
theorem over_fit {t t' ty e : TypeId} {τ : Ty} {i : TypeInfo} {z : Value} {xs ys : List τ.El} {id off sLen : Nat} {lim : Option Nat} {u : Value} {vx : Value} {news : List Value} {k : AV → Mem → R} {r : AV × Mem} (hS : Sim ok μ m w)
    (hu : P.underlying t = some (.slice e)) (hi : P.info? e = some i) (hz : i.zero = some z) (hsz : i.size = τ.width)
    (hid : m.get id = some (.arr τ xs false)) (hμ : μ id ≠ none) (hf : RepRef μ id τ.width xs.length off sLen lim u) (hr : RepAll (RepT ok w τ) ys news) (hx : Takes P w t' i z vx ys.length news)
    (hroom : off + sLen + ys.length ≤ xs.length) (hcap : ∀ a c, u = .slice a sLen c → sLen + ys.length ≤ c)
    (h : k (.one (.ref id (.sub off (sLen + ys.length)) lim)) (m.set id (.arr τ (splice xs ys (off + sLen)) false)) = some r) :
    Runs P (do pure (.value (← Builtin.append_ #[t, t'] ty #[u, vx]))) w (Post ok μ m w k r) := by
  obtain ⟨a, cap, rfl, h1, h2, h3, h4, h5⟩ := hf
  have hfit := hcap a cap rfl
  have hl := splice_length xs ys hroom
  have done : ∀ {w' : World}, (∀ ad, a = some ad → (storeCells (ad.add (sLen * i.size)) news).run P w = .ok () w') → (a = none → w' = w) → Move ok μ m w ok μ (m.set id (.arr τ (splice xs ys (off + sLen)) false)) w' →
      ((∃ B base sz, μ id = some (some (B, base, sz)) ∧ a = some ⟨B, base + off * τ.width, none⟩ ∧ base + (off + cap) * τ.width ≤ sz) ∨ (sLen + ys.length = 0 ∧ cap = 0)) →
      Runs P (do pure (.value (← Builtin.append_ #[t, t'] ty #[.slice a sLen cap, vx]))) w (Post ok μ m w k r) := by
    intro w' hst hno hmv hpl
    refine runs_of_fit (w' := w') hu hi hz hx hfit hst hno ⟨_, ok, _, _, h, hmv, _, rfl, hμ, ?_⟩
    simp only [Mem.get_set_self, Option.bind_some, Obj.row]
    rw [hl]
    exact ⟨a, cap, rfl, by simp only [View.off, View.lenN]; omega, hfit, h3, h4, hpl⟩
  rcases h5 with ⟨B, base, sz, e1, rfl, h6⟩ | ⟨h6, h7⟩
  · obtain ⟨w', hst, hmv⟩ := over_move (P := P) (p := off + sLen) hS hid e1 hr hroom
    refine done (w' := w') ?_ (by simp) hmv (.inl ⟨B, base, sz, e1, rfl, h6⟩)
    rintro ad e
    cases e
    rw [addr_add, hsz, show base + off * τ.width + sLen * τ.width = base + (off + sLen) * τ.width from by rw [Nat.add_mul]; omega]
    exact hst
  · have hys : ys = [] := List.length_eq_zero_iff.mp (by omega)
    subst hys
    have hnews : news = [] := hr
    subst hnews
    refine done (w' := w) (fun _ _ => rfl) (fun _ => rfl) ?_ (.inr ⟨by simpa using h6, h7⟩)
    rw [splice_nil]
    exact move_same hS (set_same hid)

theorem appendTo_sound {d : Option Tmp} {t t' ty e : TypeId} {τ : Ty} {ys : List τ.El} {i : TypeInfo} {z : Value} {base : Leaf} {u : Value} {vx : Value} {news : List Value} {k : AV → Mem → R} {r : AV × Mem} (hS : Sim ok μ m w)
    (hu : P.underlying t = some (.slice e)) (hi : P.info? e = some i) (hz : i.zero = some z) (hsz : i.size = τ.width) (hzs : z.cells.size = τ.width) (hT : ∀ (ok : Ok) (w : World), RepT ok w τ τ.dflt z.cells.toList) (hpos : 0 < τ.width)
    (hb : RepL ok μ m w base [u]) (hr : RepAll (RepT ok w τ) ys news) (hx : Takes P w t' i z vx ys.length news) (h : appendTo P m d e τ base ys k = some r) :
    Runs P (do pure (.value (← Builtin.append_ #[t, t'] ty #[u, vx]))) w (Post ok μ m w k r) := by
  unfold appendTo at h
  simp only at h
  split at h
  · -- nil
    simp only [RepL, List.cons.injEq, and_true] at hb
    subst hb
    obtain ⟨hf, h⟩ := gd_some.mp h
    exact new_nil hS hu hi hz hsz hzs hT hpos hr hx hf h
  · -- a frozen slice
    rename_i σ xs nl lim
    have hsees := sees_of_repT hb.1
    obtain ⟨_, a, n, cap, e1, _, _, hlim⟩ := hb
    simp only [List.cons.injEq, and_true] at e1
    subst e1
    split at h
    · split at h
      · obtain ⟨hf, h⟩ := gd_some.mp h
        have hc : cap = 0 := hlim 0 rfl
        obtain ⟨a', cap', e2, h2⟩ := hsees.slice
        simp only [Value.slice.injEq, List.length_nil] at e2
        obtain ⟨rfl, rfl, rfl⟩ := e2
        subst hc
        exact new_nil hS hu hi hz hsz hzs hT hpos hr hx hf h
      · simp at h
    · rename_i c _
      split at h
      · rename_i e2
        subst e2
        obtain ⟨hlt, h⟩ := gd_some.mp h
        obtain ⟨hf, h⟩ := gd_some.mp h
        have hc := hlim c rfl
        obtain ⟨a', cap', e2, h2⟩ := hsees.slice
        simp only [Value.slice.injEq] at e2
        obtain ⟨rfl, rfl, rfl⟩ := e2
        simp only [decide_eq_true_eq] at hlt
        exact grow_sound hS hu hi hz hsz hzs hT hpos hsees hr hx (by omega) hf h
      · simp at h
    · simp at h
  · -- the call's own array
    rename_i id v lim
    split at h
    · rename_i σ xs ro hid
      split at h
      · rename_i e2
        subst e2
        simp only at h
        have hμ : μ id ≠ none := by obtain ⟨_, _, hm, _⟩ := hb; exact hm
        have hf := ref_facts hb hid
        have hsees := sees_of_ref hS hb hid
        have hf' := hf
        obtain ⟨a, cap, rfl, h1, h2, h3, h4, h5⟩ := hf'
        have hvl := View.lenN_sees v xs h1
        -- a new array beside it
        have fresh : ∀ {zs : List σ.El}, zs = v.sees xs ++ ys → cap < v.lenN xs.length + ys.length →
            (gd (fits P e zs.length) (allocAt m d (.arr σ zs false) fun id m' => k (.one (.ref id (.tail 0) none)) m') = some r) →
            Runs P (do pure (.value (← Builtin.append_ #[t, t'] ty #[.slice a (v.lenN xs.length) cap, vx]))) w (Post ok μ m w k r) := by
          intro zs hzs' hlt h
          subst hzs'
          obtain ⟨hff, h⟩ := gd_some.mp h
          rw [← hvl] at hlt hsees ⊢
          exact grow_sound hS hu hi hz hsz hzs hT hpos hsees hr hx hlt hff h
        split at h
        · rename_i o
          obtain ⟨hff, h⟩ := gd_some.mp h
          have hs : (View.tail o).sees xs = xs.drop o := by cases o <;> rfl
          rcases Nat.lt_or_ge cap ((View.tail o).lenN xs.length + ys.length) with hlt | hge
          · -- a new block
            have hmd := move_dead hS hid
            refine Runs.mono ?_ (fun _ _ => Post.move hmd)
            have hsees' : Sees ok w σ ((View.tail o).sees xs) (.slice a ((View.tail o).sees xs).length cap) := by rw [hvl]; exact hsees
            rw [← hvl] at hlt ⊢
            exact grow_sound hmd.sim hu hi hz hsz hzs hT hpos hsees' hr hx hlt hff h
          · exact grown_fit (o' := 0) (lim := none) (zs := (View.tail o).sees xs ++ ys) hS hu hi hz hsz hid rfl (by simpa [View.off] using h1) (by simpa [View.off] using h5) h2 hμ hr hx hge (.inl ⟨rfl, rfl, by rw [hs]⟩) (Nat.le_trans (fits_some hi hff).2 (by decide)) h
        · rename_i off n
          obtain ⟨hroom, h⟩ := gd_some.mp h
          simp only [decide_eq_true_eq] at hroom
          cases ro with
          | true => simp at h
          | false =>
            simp only [cond_false, View.len, View.off] at h
            refine over_fit hS hu hi hz hsz hid hμ hf hr hx (by simpa [View.off, View.lenN] using hroom) ?_ (by simpa [View.lenN, View.off, splice] using h)
            intro a' c e3
            simp only [Value.slice.injEq] at e3
            obtain ⟨rfl, _, rfl⟩ := e3
            have := h4 rfl
            simp only [View.off, View.lenN] at this ⊢
            omega
        · rename_i c o
          have hc := h3 c rfl
          subst hc
          cases hcond : decide ((View.tail o).len xs + ys.length ≤ cap) with
          | true =>
            simp only [hcond, cond_true] at h
            obtain ⟨hff, h⟩ := gd_some.mp h
            simp only [decide_eq_true_eq, View.len_eq] at hcond
            exact grown_fit (o' := o) (lim := some cap) (zs := xs ++ ys) hS hu hi hz hsz hid rfl (by simpa [View.off] using h1) (by simpa [View.off] using h5) h2 hμ hr hx hcond (.inr ⟨rfl, rfl, rfl⟩) (Nat.le_trans (fits_some hi hff).2 (by decide)) h
          | false =>
            simp only [hcond, cond_false] at h
            simp only [decide_eq_false_iff_not, View.len_eq] at hcond
            exact fresh rfl (by omega) h
        · rename_i c off n
          have hc := h3 c rfl
          subst hc
          cases hcond : decide (n + ys.length ≤ cap) with
          | true =>
            simp only [hcond, cond_true] at h
            obtain ⟨hroom, h⟩ := gd_some.mp h
            simp only [decide_eq_true_eq] at hroom hcond
            cases ro with
            | true => simp at h
            | false =>
              simp only [cond_false, View.len, View.off] at h
              refine over_fit hS hu hi hz hsz hid hμ hf hr hx (by simpa [View.off, View.lenN] using hroom) ?_ (by simpa [View.lenN, View.off, splice] using h)
              intro a' c e3
              simp only [Value.slice.injEq] at e3
              obtain ⟨rfl, _, rfl⟩ := e3
              simpa [View.lenN] using hcond
          | false =>
            simp only [hcond, cond_false] at h
            simp only [decide_eq_false_iff_not] at hcond
            exact fresh rfl (by simp only [View.lenN]; omega) h
      · simp at h
    · simp at h
  · simp at h

theorem append_sound {d : Option Tmp} {ty : TypeId} {ts : Array TypeId} {xs : List AV} {vs : Array Value} {k : AV → Mem → R} {r : AV × Mem} (hS : Sim ok μ m w) (hx : RepAVs ok μ m w xs vs.toList)
    (h : aAppend P m d ts.toList xs k = some r) : Runs P (do pure (.value (← Builtin.append_ ts ty vs))) w (Post ok μ m w k r) := by
  unfold aAppend at h
  split at h
  · rename_i t t' s x hts
    obtain ⟨u, l1, e1, h1, vx, l2, rfl, h2, rfl⟩ := hx
    have hvs : vs = #[u, vx] := by apply Array.ext'; simpa using e1
    have hts' : ts = #[t, t'] := by apply Array.ext'; simpa using hts
    subst hvs hts'
    split at h
    · rename_i e τ D hu hτ hD
      obtain ⟨hw, hpos, i, z, hi, hz, hsz, hzs, hT⟩ := elemTy_sound w hτ hu
      obtain ⟨ls, es, h'⟩ := oneK_some h
      obtain ⟨lx, ex, h''⟩ := oneK_some h'
      subst es ex
      clear h h'
      have h := h''
      cases hd : isIntD D with
      | true =>
        simp only [hd, cond_true] at h
        split at h
        · rename_i n
          simp only [gd_some, Bool.and_eq_true, decide_eq_true_eq] at h
          obtain ⟨⟨⟨g1, g2⟩, g3⟩, h⟩ := h
          have hvx := rep_int h2
          subst hvx
          obtain ⟨news, q1, q2⟩ := zeros_sound (P := P) hi hsz hzs (hT ok w) hD hd g1 g2 g3
          exact appendTo_sound hS hu hi hz hsz hzs hT hpos h1 q1 q2 h
        · simp at h
      | false =>
        simp only [hd, cond_false] at h
        obtain ⟨ys, news, h, q1, q2⟩ := source_sound (P := P) (i := i) (z := z) hS h2 hsz hD hd h
        exact appendTo_sound hS hu hi hz hsz hzs hT hpos h1 q1 q2 h
    · simp at h
  · simp at h

end
end Go.Ev

/- The abstract evaluator is sound: the builtin functions. Own work. -/
set_option linter.unusedSimpArgs false
set_option linter.unusedVariables false
namespace Go.Ev
open Go

section
variable {P : Program} {ok : Ok} {μ : Mu} {m : Mem} {w : World}

theorem RepAll.take {α : Type} {f : α → List Value → Prop} {wd : Nat} (hf : ∀ x c, f x c → c.length = wd) : ∀ {xs : List α} {cs : List Value} (n : Nat), RepAll f xs cs → RepAll f (xs.take n) (cs.take (n * wd))
  | xs, cs, 0, _ => by simp [RepAll]
  | [], cs, n + 1, h => by
    have : cs = [] := h
    subst this
    show (([] : List Value).take _) = []
    simp
  | x :: xs, cs, n + 1, ⟨c, d, e, h1, h2⟩ => by
    have hl := hf _ _ h1
    subst e
    refine ⟨c, d.take (n * wd), ?_, h1, RepAll.take hf n h2⟩
    rw [Nat.succ_mul, List.take_append, List.take_of_length_le (by omega)]
    congr 2
    omega

theorem source_prefix {τ : Ty} {l : Leaf} {v : Value} {k : List τ.El → R} {r : AV × Mem} (hS : Sim ok μ m w) (hl : RepL ok μ m w l [v]) (h : sourceK m τ l k = some r) :
    ∃ ys cs, k ys = some r ∧ RepAll (RepT ok w τ) ys cs ∧ (∀ w', (Builtin.lenOf v).run P w' = .ok ys.length w') ∧ ∀ n, n ≤ ys.length → (Builtin.firstCells τ.width n v).run P w = .ok (cs.take (n * τ.width)).toArray w := by
  unfold sourceK at h
  split at h
  · rename_i s
    split at h
    · rename_i e
      subst e
      obtain ⟨b, e, hb, _⟩ := hl
      simp only [List.cons.injEq, and_true] at e
      subst e
      refine ⟨_, _, h, strEls_rep, fun _ => ?_, fun n _ => ?_⟩
      · have : b.size = (strEls s).length := by rw [← hb]; simp [strEls]
        simp [Builtin.lenOf, this]
      · have : ((s.map fun b => Value.int .u8 (b.toNat : Int)).take (n * (Ty.int .u8).width)).toArray = (Array.map (fun b : UInt8 => Value.int IntKind.u8 (b.toNat : Int)) b.data).extract 0 n := by
          rw [← hb]; apply Array.ext'; simp [Ty.width]
        rw [this]
        simp [Builtin.firstCells]
    · simp at h
  · obtain ⟨xs, h1, h2⟩ := seesAs_sound hS hl h
    obtain ⟨a, cap, cs, rfl, h3, h4, h5, h6⟩ := sees_first (P := P) h2
    exact ⟨xs, cs, h1, h5, fun _ => rfl, fun n hn => h6 n hn w rfl⟩

/-- Elements written over an own slice. -/
theorem ref_over {id : Nat} {v : View} {lim : Option Nat} {a : Option Addr} {sLen sCap : Nat} {τ : Ty} {xs ys : List τ.El} {news : List Value} (hS : Sim ok μ m w) (hb : RepL ok μ m w (.ref id v lim) [.slice a sLen sCap]) (hid : m.get id = some (.arr τ xs false))
    (hr : RepAll (RepT ok w τ) ys news) (hlen : ys.length ≤ sLen) :
    sLen = v.lenN xs.length ∧ ∃ w', (∀ ad, a = some ad → (storeCells ad news).run P w = .ok () w') ∧ (a = none → w' = w) ∧ Move ok μ m w ok μ (m.set id (.arr τ (splice xs ys v.off) false)) w' ∧ ((ys = [] ∨ a = none) → w' = w) := by
  have hf := ref_facts hb hid
  obtain ⟨a', cap, e, h1, h2, h3, h4, h5⟩ := hf
  simp only [Value.slice.injEq] at e
  obtain ⟨rfl, rfl, rfl⟩ := e
  refine ⟨rfl, ?_⟩
  rcases h5 with ⟨B, base, sz, e1, rfl, h6⟩ | ⟨h6, h7⟩
  · obtain ⟨w', hst, hmv⟩ := over_move (P := P) (p := v.off) hS hid e1 hr (by omega)
    refine ⟨w', fun ad e => by cases e; exact hst, by simp, hmv, ?_⟩
    rintro (rfl | h)
    · have hn : news = [] := hr
      subst hn
      have : (Result.ok () w : Result Unit) = .ok () w' := hst
      injection this with _ h
      exact h.symm
    · cases h
  · have hys : ys = [] := List.length_eq_zero_iff.mp (by omega)
    subst hys
    have hn : news = [] := hr
    subst hn
    refine ⟨w, fun _ _ => rfl, fun _ => rfl, ?_, fun _ => rfl⟩
    rw [splice_nil]
    exact move_same hS (set_same hid)

theorem elemTy_slice {t : TypeId} {τ : Ty} (h : elemTy P t = some τ) : ∃ e, P.underlying t = some (.slice e) := by
  unfold elemTy at h
  split at h
  · rename_i e hu; exact ⟨e, hu⟩
  · simp at h

theorem ref_slice {id : Nat} {v : View} {lim : Option Nat} {u : Value} (h : RepL ok μ m w (.ref id v lim) [u]) : ∃ a n c, u = .slice a n c := by
  obtain ⟨u', e, _, h⟩ := h
  simp only [List.cons.injEq, and_true] at e
  subst e
  split at h
  · exact h.slice
  · exact h

theorem copy_sound {ty : TypeId} {ts : Array TypeId} {xs : List AV} {vs : Array Value} {k : AV → Mem → R} {r : AV × Mem} (hS : Sim ok μ m w) (hx : RepAVs ok μ m w xs vs.toList)
    (h : aCopy P m ts.toList xs k = some r) : Runs P (do pure (.value (← Builtin.copy_ ts ty vs))) w (Post ok μ m w k r) := by
  unfold aCopy at h
  split at h
  · rename_i t ts' s x hts
    obtain ⟨u, l1, e1, h1, vx, l2, rfl, h2, rfl⟩ := hx
    have hvs : vs = #[u, vx] := by apply Array.ext'; simpa using e1
    have hts' : ts[0]? = some t := by rw [← Array.getElem?_toList, hts]; rfl
    subst hvs
    split at h
    · rename_i τ hτ
      obtain ⟨e, hu⟩ := elemTy_slice hτ
      obtain ⟨hw, hpos, i, z, hi, hz, hsz, hzs, hT⟩ := elemTy_sound w hτ hu
      obtain ⟨ls, es, h'⟩ := oneK_some h
      obtain ⟨lx, ex, h''⟩ := oneK_some h'
      subst es ex
      clear h h'
      have h := h''
      split at h
      · rename_i id v lim
        split at h
        · rename_i σ zs hid
          split at h
          · rename_i e2
            subst e2
            simp only at h
            obtain ⟨ys, cs, h, q1, q2, q3⟩ := source_prefix (P := P) hS h2 h
            obtain ⟨a, n, c, rfl⟩ := ref_slice (ok := ok) (w := w) h1
            have hn : n = v.lenN zs.length := (ref_over (P := P) (ys := []) (news := []) hS h1 hid rfl (by simp)).1
            have hq : RepAll (RepT ok w σ) (ys.take (min ys.length n)) (cs.take (min ys.length n * σ.width)) := q1.take (wd := σ.width) (fun _ _ h => RepT.length h) (min ys.length n)
            have hyl : (ys.take (min ys.length n)).length = min ys.length n := by simp
            obtain ⟨_, w', g1, g2, g3, _⟩ := ref_over (P := P) hS h1 hid hq (by rw [hyl]; omega)
            have hfc := q3 (min ys.length n) (by omega)
            rw [← hsz] at hfc
            have hrun : (Builtin.copy_ ts ty #[.slice a n c, vx]).run P w = .ok (goInt (min ys.length n : Nat)) w' := by
              have hmin : Nat.min ys.length n = min ys.length n := rfl
              cases a with
              | none =>
                obtain rfl := g2 rfl
                simp [Builtin.copy_, hts', run_underlying hu, sizeOf, typeInfo, hi, q2, hfc, hmin]
              | some ad =>
                have := g1 ad rfl
                rw [← hsz] at this
                simp [Builtin.copy_, hts', run_underlying hu, sizeOf, typeInfo, hi, q2, hfc, hmin, this]
            refine Runs.value hrun ⟨_, ok, μ, _, h, ?_, ?_⟩
            · rw [splice, hyl] at g3
              rw [View.len_eq, ← hn]
              exact g3
            · rw [View.len_eq, ← hn]; rfl
          · simp at h
        · simp at h
      · simp at h
    · simp at h
  · simp at h

theorem clear_sound {ty : TypeId} {ts : Array TypeId} {xs : List AV} {vs : Array Value} {k : AV → Mem → R} {r : AV × Mem} (hS : Sim ok μ m w) (hx : RepAVs ok μ m w xs vs.toList)
    (h : aClear P m ts.toList xs k = some r) : Runs P (do pure (.value (← Builtin.clear_ ts ty vs))) w (Post ok μ m w k r) := by
  unfold aClear at h
  split at h
  · rename_i t s hts
    obtain ⟨u, l1, e1, h1, rfl⟩ := hx
    have hvs : vs = #[u] := by apply Array.ext'; simpa using e1
    have hts' : ts[0]? = some t := by rw [← Array.getElem?_toList, hts]; rfl
    subst hvs
    split at h
    · rename_i τ hτ
      obtain ⟨e, hu⟩ := elemTy_slice hτ
      obtain ⟨hw, hpos, i, z, hi, hz, hsz, hzs, hT⟩ := elemTy_sound w hτ hu
      obtain ⟨ls, es, h'⟩ := oneK_some h
      subst es
      clear h
      have h := h'
      split at h
      · rename_i id v lim
        split at h
        · rename_i σ zs hid
          split at h
          · rename_i e2
            subst e2
            simp only at h
            obtain ⟨a, n, c, rfl⟩ := ref_slice (ok := ok) (w := w) h1
            have hn : n = v.lenN zs.length := (ref_over (P := P) (ys := []) (news := []) hS h1 hid rfl (by simp)).1
            have hmade := made_rep (n := n) hzs (hT ok w)
            have hzc : (Builtin.zeroCells z.cells n).toList = (madeCells z.cells (n * σ.width)).toList := by simp [Builtin.zeroCells, madeCells, hzs]
            rw [← hzc] at hmade
            obtain ⟨_, w', g1, g2, g3, g4⟩ := ref_over (P := P) hS h1 hid hmade (by simp)
            have hrun : (Builtin.clear_ ts ty #[.slice a n c]).run P w = .ok (.tuple #[]) w' := by
              cases a with
              | none =>
                obtain rfl := g2 rfl
                simp [Builtin.clear_, hts', run_underlying hu]
              | some ad =>
                have := g1 ad rfl
                cases n with
                | zero =>
                  obtain rfl := g4 (.inl (by simp))
                  simp [Builtin.clear_, hts', run_underlying hu]
                | succ n => simp [Builtin.clear_, hts', run_underlying hu, zeroValue, typeInfo, hi, hz, this]
            refine Runs.value hrun ⟨_, ok, μ, _, h, ?_, #[], rfl, rfl⟩
            rw [splice, List.length_replicate] at g3
            rw [View.len_eq, ← hn]
            exact g3
          · simp at h
        · simp at h
      · simp at h
    · simp at h
  · simp at h

theorem RepEnts.length {κ τ : Ty} : ∀ {es : List (κ.El × τ.El)} {s : List MapEntry}, RepEnts ok w κ τ es s → s.length = es.length
  | [], s, h => by simp only [RepEnts] at h; simp [h]
  | (_, _) :: es, s, ⟨e, s', h, _, _, _, h3⟩ => by rw [h, List.length_cons, RepEnts.length h3]; rfl

theorem lenOf_sound {l : Leaf} {v : Value} {k : Nat → R} {r : AV × Mem} (hS : Sim ok μ m w) (hl : RepL ok μ m w l [v]) (hns : ∀ s, l ≠ .str s) (h : lenOf m l k = some r) : ∃ a n c, v = .slice a n c ∧ k n = some r := by
  unfold lenOf at h
  split at h
  · obtain ⟨⟨a, cap, e, _⟩, _⟩ := hl
    simp only [List.cons.injEq, and_true] at e
    exact ⟨a, _, cap, e, h⟩
  · simp only [RepL, List.cons.injEq, and_true] at hl
    exact ⟨none, 0, 0, hl, h⟩
  · rename_i s; exact absurd rfl (hns s)
  · rename_i id v' lim
    obtain ⟨u, e, _, hu⟩ := hl
    simp only [List.cons.injEq, and_true] at e
    subst e
    split at h
    · rename_i τ xs ro hid
      simp only [hid, Option.bind_some, Obj.row] at hu
      obtain ⟨a, cap, rfl, _⟩ := hu
      exact ⟨a, _, cap, rfl, by rw [← View.len_eq]; exact h⟩
    · rename_i wd els hid
      simp only [hid, Option.bind_some, Obj.row] at hu
      obtain ⟨a, cap, rfl, _⟩ := hu
      exact ⟨a, _, cap, rfl, by rw [← View.len_eq]; exact h⟩
    · simp at h
  · simp at h

theorem minMax_sound {isMax : Bool} : ∀ {xs : List AV} {vs : List Value} {l : Leaf} {v : Value} {k : Leaf → R} {r : AV × Mem}, RepAVs ok μ m w xs vs → RepL ok μ m w l [v] → minMax isMax xs l k = some r →
    ∃ l' v', k l' = some r ∧ RepL ok μ m w l' [v'] ∧ (vs.foldlM (if isMax then Builtin.max2 else Builtin.min2) v).run P w = .ok v' w
  | [], vs, l, v, k, r, hx, hl, h => by
    have : vs = [] := hx
    subst this
    exact ⟨l, v, by simpa [minMax] using h, hl, by simp⟩
  | x :: xs, vs, l, v, k, r, ⟨u, s, e, h1, h2⟩, hl, h => by
    subst e
    cases l <;> try (simp [minMax] at h; done)
    rename_i κ n
    simp only [minMax] at h
    obtain ⟨κ', y, ex, h'⟩ := intK_some h
    subst ex
    split at h'
    · rename_i ek
      subst ek
      have hu := rep_int h1
      have hv : v = .int κ n := by simpa [RepL] using hl
      subst hu hv
      obtain ⟨l', v', g1, g2, g3⟩ := minMax_sound (v := .int κ (bif isMax then (if y > n then y else n) else (if y < n then y else n))) h2 (show RepL ok μ m w (.int _ _) _ from rfl) h'
      refine ⟨l', v', g1, g2, ?_⟩
      rw [List.foldlM_cons]
      cases isMax with
      | true => simpa [Builtin.max2] using g3
      | false => simpa [Builtin.min2] using g3
    · simp at h'

end
end Go.Ev

/- The abstract evaluator is sound: the builtin functions, whole. Own work. -/
set_option linter.unusedSimpArgs false
set_option linter.unusedVariables false
namespace Go.Ev
open Go

section
variable {P : Program} {ok : Ok} {μ : Mu} {m : Mem} {w : World}

theorem here {k : AV → Mem → R} {r : AV × Mem} {av : AV} {v : Value} (hS : Sim ok μ m w) (h : k av m = some r) (hv : RepAV ok μ m w av v) : Post ok μ m w k r v w :=
  ⟨av, ok, μ, m, h, Move.refl hS, hv⟩

theorem len_sound {ty : TypeId} {ts : Array TypeId} {xs : List AV} {vs : Array Value} {k : AV → Mem → R} {r : AV × Mem} {d : Option Tmp} (hS : Sim ok μ m w) (hx : RepAVs ok μ m w xs vs.toList)
    (h : aBuiltin P m d .len ts.toList xs k = some r) : Runs P (do pure (.value (← Builtin.len_ ts ty vs))) w (Post ok μ m w k r) := by
  simp only [aBuiltin] at h
  split at h
  · rename_i t x hts
    obtain ⟨u, l1, e1, h1, rfl⟩ := hx
    have hvs : vs = #[u] := by apply Array.ext'; simpa using e1
    have hts' : ts[0]? = some t := by rw [← Array.getElem?_toList, hts]; rfl
    subst hvs
    split at h
    · rename_i n e hu
      exact Runs.value (v := goInt n) (by simp [Builtin.len_, hts', run_underlying hu]) (here hS h rfl)
    · rename_i s hu
      obtain ⟨b, e, hb, _⟩ := h1
      simp only [List.cons.injEq, and_true] at e
      subst e
      refine Runs.value (v := goInt b.size) (by simp [Builtin.len_, hts', run_underlying hu]) (here hS h ?_)
      have : b.size = s.length := by rw [← hb]; simp
      rw [this]; rfl
    · simp at h
    · rename_i e l hns hu
      obtain ⟨a, n, c, rfl, hk⟩ := lenOf_sound hS h1 (fun s e => hns s e) h
      exact Runs.value (v := goInt n) (by simp [Builtin.len_, hts', run_underlying hu]) (here hS hk rfl)
    · rename_i hu
      have := rep_nilmap h1
      subst this
      exact Runs.value (v := goInt 0) (by simp [Builtin.len_, hts', run_underlying hu]) (here hS h rfl)
    · rename_i a b id hu
      split at h
      · rename_i ro κ τ es hid
        obtain ⟨B, base, sz, hm, e⟩ := h1
        simp only [List.cons.injEq, and_true] at e
        subst e
        obtain ⟨B', sz', ents, clock, hm', hh, hr⟩ := hS.objs id _ hid
        rw [hm] at hm'
        simp only [Option.some.injEq, Prod.mk.injEq] at hm'
        obtain ⟨rfl, rfl, rfl⟩ := hm'
        have hl := hr.length
        refine Runs.value (v := goInt ents.size) (by simp [Builtin.len_, hts', run_underlying hu, run_getObj_map w B ents clock hh]) (here hS h ?_)
        have : ents.size = es.length := by simpa using hl
        rw [this]; rfl
      · simp at h
    · simp at h
  · simp at h

theorem cap_sound {ty : TypeId} {ts : Array TypeId} {xs : List AV} {vs : Array Value} {k : AV → Mem → R} {r : AV × Mem} {d : Option Tmp} (hS : Sim ok μ m w) (hx : RepAVs ok μ m w xs vs.toList)
    (h : aBuiltin P m d .cap ts.toList xs k = some r) : Runs P (do pure (.value (← Builtin.cap_ ts ty vs))) w (Post ok μ m w k r) := by
  simp only [aBuiltin] at h
  split at h
  · rename_i t x hts
    obtain ⟨u, l1, e1, h1, rfl⟩ := hx
    have hvs : vs = #[u] := by apply Array.ext'; simpa using e1
    have hts' : ts[0]? = some t := by rw [← Array.getElem?_toList, hts]; rfl
    subst hvs
    split at h
    · rename_i e hu
      obtain ⟨l, es, h'⟩ := oneK_some h
      subst es
      split at h'
      · rename_i c
        obtain ⟨_, a, n, cap, e1, _, _, hl⟩ := h1
        simp only [List.cons.injEq, and_true] at e1
        subst e1
        obtain rfl := hl c rfl
        exact Runs.value (v := goInt cap) (by simp [Builtin.cap_, hts', run_underlying hu]) (here hS h' rfl)
      · rename_i c
        rename_i id v
        obtain ⟨u', e1, _, hh⟩ := h1
        simp only [List.cons.injEq, and_true] at e1
        subst e1
        cases hrow : (m.get id).bind Obj.row with
        | none => simp [hrow] at h'
        | some p =>
          simp only [hrow, Option.isSome_some, cond_true] at h' hh
          obtain ⟨a, cap, rfl, _, _, hl, _⟩ := hh
          obtain rfl := hl c rfl
          exact Runs.value (v := goInt cap) (by simp [Builtin.cap_, hts', run_underlying hu]) (here hS h' rfl)
      · have := rep_nilsl h1
        subst this
        exact Runs.value (v := goInt 0) (by simp [Builtin.cap_, hts', run_underlying hu]) (here hS h' rfl)
      · simp at h'
    · simp at h
  · simp at h

theorem builtin_sound {b : Builtin} {ty : TypeId} {ts : Array TypeId} {cs : Array Bool} {xs : List AV} {vs : Array Value} {k : AV → Mem → R} {r : AV × Mem} {d : Option Tmp} (hS : Sim ok μ m w) (hx : RepAVs ok μ m w xs vs.toList)
    (h : aBuiltin P m d b ts.toList xs k = some r) : Runs P (builtin b ts ty cs vs) w (Post ok μ m w k r) := by
  cases b <;> try (simp [aBuiltin] at h; done)
  · exact append_sound hS hx h
  · exact cap_sound hS hx h
  · exact clear_sound hS hx h
  · exact copy_sound hS hx h
  · exact len_sound hS hx h
  · simp only [aBuiltin] at h
    split at h
    · rename_i x xs'
      obtain ⟨u, l1, e1, h1, h2⟩ := hx
      obtain ⟨l, es, h'⟩ := oneK_some h
      subst es
      obtain ⟨l', v', g1, g2, g3⟩ := minMax_sound (P := P) h2 h1 h'
      refine Runs.value (s := Builtin.max_ ts ty vs) (v := v') ?_ (here hS g1 g2)
      simp only [Builtin.max_, e1]
      exact g3
    · simp at h
  · simp only [aBuiltin] at h
    split at h
    · rename_i x xs'
      obtain ⟨u, l1, e1, h1, h2⟩ := hx
      obtain ⟨l, es, h'⟩ := oneK_some h
      subst es
      obtain ⟨l', v', g1, g2, g3⟩ := minMax_sound (P := P) h2 h1 h'
      refine Runs.value (s := Builtin.min_ ts ty vs) (v := v') ?_ (here hS g1 g2)
      simp only [Builtin.min_, e1]
      exact g3
    · simp at h

end
end Go.Ev

/- The abstract evaluator is sound: maps. Own work. -/
set_option linter.unusedSimpArgs false
set_option linter.unusedVariables false
namespace Go.Ev
open Go

section
variable {P : Program} {ok : Ok} {μ : Mu} {m : Mem} {w : World}

theorem bytes_ext {a b : ByteArray} (h : a.data.toList = b.data.toList) : a = b := by
  obtain ⟨⟨x⟩⟩ := a
  obtain ⟨⟨y⟩⟩ := b
  simp at h
  rw [h]

theorem key_cases {d : TypeDesc} {κ : Ty} (h : keyKind d = some κ) {x y : κ.El} {a b : Value} (ha : RepT ok w κ x [a]) (hb : RepT ok w κ y [b]) :
    MapKept.IsKey d a ∧ MapKept.IsKey d b ∧ (κ.beq x y = true → a = b ∧ x = y) ∧ (κ.beq x y = false → a ≠ b) := by
  cases d <;> simp [keyKind] at h <;> subst h
  · simp only [RepT, List.cons.injEq, and_true] at ha hb
    subst ha hb
    refine ⟨trivial, trivial, ?_, ?_⟩ <;> simp [Ty.beq]
  · simp only [RepT, List.cons.injEq, and_true] at ha hb
    subst ha hb
    refine ⟨rfl, rfl, ?_, ?_⟩ <;> simp [Ty.beq]
  · obtain ⟨s, e1, h1, _⟩ := ha
    obtain ⟨s', e2, h2, _⟩ := hb
    simp only [List.cons.injEq, and_true] at e1 e2
    subst e1 e2
    refine ⟨trivial, trivial, ?_, ?_⟩
    · intro h
      have hxy : x = y := by simpa [Ty.beq] using h
      exact ⟨by rw [bytes_ext (h1.trans (hxy.trans h2.symm))], hxy⟩
    · intro h e
      have hne : ¬ (x = y) := by simpa [Ty.beq] using h
      cases e
      exact hne (h1.symm.trans h2)

theorem find_sound {d : TypeDesc} {κ τ : Ty} (hd : keyKind d = some κ) {key : κ.El} {kv : Value} (hk : RepT ok w κ key [kv]) : ∀ {es : List (κ.El × τ.El)} {s : List MapEntry} (i : Nat), RepEnts ok w κ τ es s →
    (assoc κ τ key es = none ∧ Instr.findNow d kv s i = some none ∧ ∀ v value born, RepT ok w τ v value.cells.toList → aggV value = τ.isAgg → RepEnts ok w κ τ (assocSet κ τ key v es) (s ++ [⟨kv, value, born⟩])) ∨
    ∃ u j e, assoc κ τ key es = some u ∧ Instr.findNow d kv s i = some (some (i + j, e.val)) ∧ s[j]? = some e ∧ e.key = kv ∧ RepT ok w τ u e.val.cells.toList ∧ aggV e.val = τ.isAgg ∧
      ∀ v value, RepT ok w τ v value.cells.toList → aggV value = τ.isAgg → RepEnts ok w κ τ (assocSet κ τ key v es) (s.modify j fun e => { e with key := kv, val := value })
  | [], s, i, h => by
    have : s = [] := h
    subst this
    exact .inl ⟨rfl, rfl, fun v value born h1 h2 => ⟨_, [], rfl, hk, h1, h2, rfl⟩⟩
  | (k, v0) :: es, s, i, ⟨e, s', hs, h1, h2, h3, h4⟩ => by
    subst hs
    obtain ⟨a1, a2, a3, a4⟩ := key_cases hd hk h1
    obtain ⟨rr, hr, hiff⟩ := MapKept.sameNow_of_keys a1 a2
    cases hb : κ.beq key k with
    | true =>
      obtain ⟨e1, e2⟩ := a3 hb
      have : rr = true := hiff.2 e1
      subst this
      refine .inr ⟨v0, 0, e, by simp [assoc, hb], by simp [Instr.findNow, hr], rfl, e1.symm, h2, h3, ?_⟩
      intro v value g1 g2
      simp only [assocSet, hb, cond_true, List.modify_zero_cons]
      exact ⟨_, s', rfl, by rw [e1]; exact h1, g1, g2, h4⟩
    | false =>
      have hne := a4 hb
      have : rr = false := by
        cases rr with
        | false => rfl
        | true => exact absurd (hiff.1 rfl) hne
      subst this
      rcases find_sound hd hk (i + 1) h4 with ⟨g1, g2, g3⟩ | ⟨u, j, e', g1, g2, g3, g4, g5, g6, g7⟩
      · refine .inl ⟨by simp [assoc, hb, g1], by simp [Instr.findNow, hr, g2], ?_⟩
        intro v value born q1 q2
        simp only [assocSet, hb, cond_false, List.cons_append]
        exact ⟨e, _, rfl, h1, h2, h3, g3 v value born q1 q2⟩
      · refine .inr ⟨u, j + 1, e', by simp [assoc, hb, g1], by simp [Instr.findNow, hr, g2]; omega, by simpa using g3, g4, g5, g6, ?_⟩
        intro v value q1 q2
        simp only [assocSet, hb, cond_false, List.modify_succ_cons]
        exact ⟨e, _, rfl, h1, h2, h3, g7 v value q1 q2⟩

theorem keyTy_sound (w0 : World) {t : TypeId} {κ τ : Ty} (h : keyTy P t = some (κ, τ)) : ∃ a b d i z, P.underlying t = some (.map a b) ∧ P.underlying a = some d ∧ keyKind d = some κ ∧ P.info? b = some i ∧ i.zero = some z ∧
    aggTy P b = τ.isAgg ∧ aggV z = τ.isAgg ∧ ∀ (ok : Ok) (w : World), RepT ok w τ τ.dflt z.cells.toList := by
  unfold keyTy at h
  split at h
  · rename_i a b hu
    split at h
    · rename_i κ' τ' i hκ hτ hi
      split at h
      · rename_i z hz
        cases hzz : zeroIs P b (τ'.leaves τ'.dflt) with
        | false => simp [hzz] at h
        | true =>
          cases h1 : (aggTy P b == τ'.isAgg) with
          | false => simp [hzz, h1] at h
          | true =>
            cases h2 : (aggV z == τ'.isAgg) with
            | false => simp [hzz, h1, h2] at h
            | true =>
              simp only [hzz, h1, h2, Bool.and_self, cond_true, Option.some.injEq, Prod.mk.injEq] at h
              obtain ⟨rfl, rfl⟩ := h
              obtain ⟨d, hd, hkk⟩ := Option.bind_eq_some_iff.mp hκ
              obtain ⟨i', z', hi', hz', hrep⟩ := zeroIs_sound hzz
              rw [hi] at hi'
              cases hi'
              rw [hz] at hz'
              cases hz'
              exact ⟨a, b, d, i, z, hu, hd, hkk, hi, hz, by simpa using h1, by simpa using h2, fun ok w => repT_of_leaves (hrep ok (fun _ => none) [] w)⟩
      · simp at h
    · simp at h
  · simp at h

/-- A value out of a map. -/
theorem avEl_sound {b : TypeId} {τ : Ty} {x : τ.El} {V' : V} {v : Value} (h : avEl P b τ x = some V') (hr : RepT ok w τ x v.cells.toList) (ha : aggV v = τ.isAgg) (hb : aggTy P b = τ.isAgg) : RepV ok μ m w V' v := by
  unfold avEl mkV at h
  have hl : RepLs ok μ m w (τ.leaves x) v.cells.toList := leaves_of_repT hr
  split at h
  · rename_i d hu
    have hag : aggD d = τ.isAgg := by rw [← hb]; simp [aggTy, hu]
    cases hd : aggD d with
    | true =>
      simp only [hd, cond_true, Option.some.injEq] at h
      subst h
      rw [← hag, hd] at ha
      cases v <;> simp [aggV] at ha
      exact ⟨_, rfl, hl⟩
    | false =>
      simp only [hd, cond_false] at h
      rw [← hag, hd] at ha
      split at h
      · rename_i l hll
        cases hw : Nat.beq l.width 1 with
        | false => simp [hw] at h
        | true =>
          simp only [hw, cond_true, Option.some.injEq] at h
          subst h
          rw [hll] at hl
          have h1 := RepAll.one.mp hl
          have hlen := RepL.length h1
          rw [Nat.eq_of_beq_eq_true hw] at hlen
          have : v.cells = #[v] := by
            cases v <;> first | rfl | (simp [aggV] at ha; done)
          rw [this] at h1
          exact h1
      · simp at h
  · simp at h

theorem read_one {κ : Ty} {kl : Leaf} {key : κ.El} {kv : Value} (h : κ.read [kl] = some key) (hk : RepL ok μ m w kl [kv]) : RepT ok w κ key [kv] :=
  read_sound h (RepAll.one.mpr hk)

theorem map_place {id : Nat} {u : Value} {ro : Bool} {κ τ : Ty} {es : List (κ.El × τ.El)} (hS : Sim ok μ m w) (hl : RepL ok μ m w (.map id) [u]) (hid : m.get id = some (.map ro κ τ es)) :
    ∃ B sz ents clock, u = .map (some B) ∧ μ id = some (some (B, 0, sz)) ∧ w.heap[B]? = some (.map ents clock) ∧ RepEnts ok w κ τ es ents.toList := by
  obtain ⟨B, base, sz, hm, e⟩ := hl
  simp only [List.cons.injEq, and_true] at e
  obtain ⟨B', sz', ents, clock, hm', hh, hr⟩ := hS.objs id _ hid
  rw [hm] at hm'
  simp only [Option.some.injEq, Prod.mk.injEq] at hm'
  obtain ⟨rfl, rfl, rfl⟩ := hm'
  exact ⟨B, sz, ents, clock, e, hm, hh, hr⟩

theorem lookup_sound {t : TypeId} {x key : AV} {u kv : Value} {okf : Bool} {k : AV → R} {r : AV × Mem} (hS : Sim ok μ m w) (hx : RepAV ok μ m w x u) (hkey : RepAV ok μ m w key kv) (h : aLookup P m t x key okf k = some r) :
    ∃ av v, k av = some r ∧ RepAV ok μ m w av v ∧ (Instr.lookup t u kv okf).run P w = .ok v w := by
  unfold aLookup at h
  split at h
  · rename_i a' b' κ τ hu hkt
    obtain ⟨a, b, d, i, z, hu', hda, hkk, hi, hz, hag, haz, hT⟩ := keyTy_sound w hkt
    rw [hu] at hu'
    simp only [Option.some.injEq, TypeDesc.map.injEq] at hu'
    obtain ⟨rfl, rfl⟩ := hu'
    split at h
    · rename_i kl
      obtain ⟨ke, hke, h⟩ := opt_some.mp h
      simp only at h
      have hkT := read_one hke hkey
      have hzero : (zeroValue b').run P w = .ok z w := by simp [zeroValue, typeInfo, hi, hz]
      have hik : MapKept.IsKey d kv := (key_cases hkk hkT hkT).1
      have fin : ∀ {v : τ.El} {c : Value} {there : Bool}, (opt (avEl P b' τ v) fun x => k (bif okf then .tup [x, .one (.bool there)] else .val x)) = some r → RepT ok w τ v c.cells.toList → aggV c = τ.isAgg →
          ∃ av, k av = some r ∧ RepAV ok μ m w av (if okf then .tuple #[c, .bool there] else c) := by
        intro v c there h1 h2 h3
        obtain ⟨x', hx', h1⟩ := opt_some.mp h1
        have hv := avEl_sound (μ := μ) (m := m) hx' h2 h3 hag
        refine ⟨_, h1, ?_⟩
        cases okf with
        | true => exact ⟨_, rfl, c, _, rfl, hv, _, [], rfl, rfl, rfl⟩
        | false => exact hv
      split at h
      · obtain rfl := rep_nilmap hx
        obtain ⟨av, g1, g2⟩ := fin h (hT ok w) haz
        refine ⟨av, _, g1, g2, ?_⟩
        have hck : (Instr.checkKey true 10000 a' kv).run P w = .ok () w := MapKept.run_checkKey hda hik true 9999
        have hf : (Instr.findKey a' kv []).run P w = .ok none w := MapKept.run_findKey hda rfl
        simp [Instr.lookup, run_underlying hu, hck, hf, hzero]
      · rename_i id
        split at h
        · rename_i ro κ' τ' es hid
          split at h
          · rename_i e1
            subst e1
            split at h
            · rename_i e2
              subst e2
              simp only at h
              obtain ⟨B, sz, ents, clock, rfl, hm, hh, hr⟩ := map_place hS hx hid
              have hck : (Instr.checkKey ents.isEmpty 10000 a' kv).run P w = .ok () w := MapKept.run_checkKey hda hik _ 9999
              have hg : (getObj B).run P w = .ok (.map ents clock) w := run_getObj_map w B ents clock hh
              rcases find_sound hkk hkT 0 hr with ⟨g1, g2, _⟩ | ⟨v, j, e, g1, g2, _, _, g5, g6, _⟩
              · rw [g1] at h
                simp only at h
                obtain ⟨av, q1, q2⟩ := fin h (hT ok w) haz
                refine ⟨av, _, q1, q2, ?_⟩
                have hf := MapKept.run_findKey (w := w) hda g2
                simp [Instr.lookup, run_underlying hu, hg, hck, hf, hzero]
              · rw [g1] at h
                simp only at h
                obtain ⟨av, q1, q2⟩ := fin h g5 g6
                refine ⟨av, _, q1, q2, ?_⟩
                have hf := MapKept.run_findKey (w := w) hda g2
                simp [Instr.lookup, run_underlying hu, hg, hck, hf]
            · simp at h
          · simp at h
        · simp at h
      · simp at h
    · simp at h
  · simp at h

theorem update_sound {t : TypeId} {x key y : AV} {u kv yv : Value} {k : Mem → R} {r : AV × Mem} (hS : Sim ok μ m w) (hx : RepAV ok μ m w x u) (hkey : RepAV ok μ m w key kv) (hy : RepAV ok μ m w y yv) (h : aUpdate P m t x key y k = some r) :
    ∃ m' w', k m' = some r ∧ Move ok μ m w ok μ m' w' ∧ (Instr.mapUpdate t u kv yv).run P w = .ok () w' := by
  unfold aUpdate at h
  split at h
  · rename_i κ τ id kV vV hkt
    obtain ⟨a, b, d, i, z, hu, hda, hkk, hi, hz, hag, haz, hT⟩ := keyTy_sound w hkt
    obtain ⟨ke, hke, h⟩ := opt_some.mp h
    obtain ⟨ve, hve, h⟩ := opt_some.mp h
    cases hka : kV.isAgg with
    | true => simp [hka] at h
    | false =>
      cases hva : (vV.isAgg == τ.isAgg) with
      | false => simp [hka, hva] at h
      | true =>
        simp only [hka, hva, Bool.not_true, Bool.or_self, cond_false] at h
        have hkT : RepT ok w κ ke [kv] := by
          cases kV with
          | agg _ => simp [V.isAgg] at hka
          | one l => exact read_one hke hkey
        have hik : MapKept.IsKey d kv := (key_cases hkk hkT hkT).1
        obtain ⟨hvT, hvA⟩ : RepT ok w τ ve yv.cells.toList ∧ aggV yv = τ.isAgg := by
          have hva : vV.isAgg = τ.isAgg := by simpa using hva
          rw [← hva]
          cases vV with
          | agg ls =>
            obtain ⟨cs, rfl, h1⟩ := hy
            exact ⟨read_sound hve h1, rfl⟩
          | one l =>
            have h1 : RepL ok μ m w l [yv] := hy
            have ho := RepL.one h1 yv (by simp)
            have hc : yv.cells = #[yv] := by cases yv <;> first | rfl | simp [oneC] at ho
            rw [hc]
            exact ⟨read_sound hve (RepAll.one.mpr h1), by cases yv <;> first | rfl | simp [oneC] at ho⟩
        split at h
        · rename_i κ' τ' es hid
          split at h
          · rename_i e1
            subst e1
            split at h
            · rename_i e2
              subst e2
              simp only at h
              obtain ⟨B, sz, ents, clock, rfl, hm, hh, hr⟩ := map_place hS hx hid
              have hg : (getObj B).run P w = .ok (.map ents clock) w := run_getObj_map w B ents clock hh
              have hck : (Instr.checkKey false 10000 a kv).run P w = .ok () w := MapKept.run_checkKey hda hik _ 9999
              have done : ∀ {ents' : Array MapEntry} {clock' : Nat}, RepEnts ok w κ' τ' (assocSet κ' τ' ke ve es) ents'.toList →
                  Move ok μ m w ok μ (m.set id (.map false κ' τ' (assocSet κ' τ' ke ve es))) { w with heap := w.heap.setIfInBounds B (.map ents' clock') } := by
                intro ents' clock' he
                have hhs := MapKept.heap_set (o' := Go.Obj.map ents' clock') hh
                have hnok : ∀ p, ok B p → cellAt { w with heap := w.heap.setIfInBounds B (.map ents' clock') } B p = cellAt w B p := by
                  intro p _
                  simp [cellAt, World.cell?, hhs.1, hh]
                have hsh : Shape (.map false κ' τ' es) (.map false κ' τ' (assocSet κ' τ' ke ve es)) := .inr trivial
                have hst := step_set (w' := { w with heap := w.heap.setIfInBounds B (.map ents' clock') }) (μ := μ) hid hsh (fun b p hb => by
                  by_cases e : b = B
                  · subst e; exact hnok p hb
                  · exact cellAt_of_heap (hhs.2 b e))
                refine move_write hS ⟨_, hid, rfl⟩ ⟨0, sz, hm⟩ hid hsh (by simp) (fun b hb => hhs.2 b hb) hnok ?_
                exact ⟨B, sz, ents', clock', hm, hhs.1, he.mono hst.grow⟩
              rcases find_sound hkk hkT 0 hr with ⟨_, g2, g3⟩ | ⟨v, j, e, _, g2, g3, g4, _, _, g7⟩
              · have hf := MapKept.run_findKey (w := w) hda g2
                refine ⟨_, _, h, done (ents' := ents.push ⟨kv, yv, clock⟩) (clock' := clock + 1) (by simpa using g3 ve yv clock hvT hvA), ?_⟩
                simp [Instr.mapUpdate, run_underlying hu, hg, hck, hf, MapKept.run_setObj_map _ hh]
              · have hf := MapKept.run_findKey (w := w) hda g2
                have hj : ents[j]? = some e := by simpa using g3
                refine ⟨_, _, h, done (ents' := ents.modify j fun e => { e with key := kv, val := yv }) (clock' := clock) (by simpa using g7 ve yv hvT hvA), ?_⟩
                simp [Instr.mapUpdate, run_underlying hu, hg, hck, hf, hj, g4, MapKept.run_keyThatStays hik, MapKept.run_setObj_map _ hh]
            · simp at h
          · simp at h
        · simp at h
  · simp at h

theorem makeMap_sound {d : Option Tmp} {t : TypeId} {κ τ : Ty} {k : AV → Mem → R} {r : AV × Mem} (hS : Sim ok μ m w) (h : allocAt m d (.map false κ τ []) (fun id m' => k (.one (.map id)) m') = some r) :
    Runs P (do pure (.value (← Instr.makeMap t none))) w (Post ok μ m w k r) := by
  obtain ⟨i, rfl, hid, h⟩ := allocAt_some h
  refine Runs.value (v := .map (some w.heap.size)) (w' := w.alloc (.map #[] 0)) (by simp [Instr.makeMap]) ?_
  have hmv := move_alloc (w' := w.alloc (.map #[] 0)) (o := .map false κ τ []) (sz := 0) hS hid rfl ⟨w.heap.size, 0, #[], 0, Mu.put_self _ _ _, heap_new w _, rfl⟩
  exact ⟨_, ok, _, _, h, hmv, w.heap.size, 0, 0, Mu.put_self _ _ _, rfl⟩

end
end Go.Ev

/- The abstract evaluator is sound: conversions. Own work. -/
set_option linter.unusedSimpArgs false
set_option linter.unusedVariables false
namespace Go.Ev
open Go

section
variable {P : Program} {ok : Ok} {μ : Mu} {m : Mem} {w : World}

theorem u8_cells {xs : List Int} {cs : List Value} (h : RepAll (RepT ok w (.int .u8)) xs cs) : cs = xs.map (Value.int .u8) := by
  induction xs generalizing cs with
  | nil => exact h
  | cons x xs ih =>
    obtain ⟨c, d, e, h1, h2⟩ := h
    rw [e, ih h2]
    have : c = [.int .u8 x] := h1
    rw [this]; rfl

theorem bytes_string {s t e : TypeId} {xs : List Int} {v : Value} (hs : P.underlying s = some (.slice e)) (he : P.underlying e = some (.int .u8)) (ht : P.underlying t = some .string) (h : Sees ok w (.int .u8) xs v) :
    ∃ b : ByteArray, (convert s t v).run P w = .ok (.string b) w ∧ b.data.toList = xs.map fun n => UInt8.ofNat n.toNat := by
  obtain ⟨a, cap, cs, rfl, h1, h2, h3, h4⟩ := h
  have hcs := u8_cells h3
  subst hcs
  cases a with
  | none =>
    have : xs = [] := List.length_eq_zero_iff.mp (by have := h2 rfl; omega)
    subst this
    exact ⟨_, run_convert_bytes_nil w s e hs he _ _ t ht, rfl⟩
  | some ad =>
    obtain ⟨hsp, hc⟩ := h4 ad rfl
    have hl : (loadCells ad xs.length).run P w = .ok (xs.map (Value.int .u8)).toArray w := by
      have := run_loadCells_list (P := P) w ad (xs.map (Value.int .u8)) (fun j v hj => by
        rcases hsp with rfl | hsp
        · simp at hj
        · obtain ⟨B, o, sp⟩ := ad
          simp only at hsp
          subst hsp
          rw [addr_add]
          exact hc j v hj)
      simpa using this
    refine ⟨xs.foldl (fun r n => r.push (UInt8.ofNat n.toNat)) ByteArray.empty, ?_, ?_⟩
    · rw [run_convert_bytes_string w s t e _ _ cap hs he ht, run_bytesToString w _ _ cap xs hl]
    · rw [foldl_push_bytes]
      simp [ByteArray.empty, ByteArray.emptyWithCapacity]
      rfl

theorem convert_sound {d : Option Tmp} {s t : TypeId} {x : AV} {v : Value} {k : AV → Mem → R} {r : AV × Mem} (hS : Sim ok μ m w) (hx : RepAV ok μ m w x v) (h : aConvert P m d s t x k = some r) :
    Runs P (do pure (.value (← convert s t v))) w (Post ok μ m w k r) := by
  unfold aConvert at h
  split at h
  · rename_i D κ κ' n hs ht
    obtain rfl := rep_int hx
    exact Runs.value (v := .int κ (κ.wrap n)) (by simp [convert, run_underlying hs, run_underlying ht, Conv.intToInt]) (here hS h rfl)
  · rename_i D b hs ht
    obtain ⟨bs, e, hb⟩ := hx
    simp only [List.cons.injEq, and_true] at e
    subst e
    exact Runs.value (v := .string bs) (by simp [convert, run_underlying hs, run_underlying ht]) (here hS h ⟨bs, rfl, hb⟩)
  · rename_i e l _ hs ht
    split at h
    · rename_i he
      obtain ⟨xs, h1, h2⟩ := seesAs_sound hS hx h
      obtain ⟨b, h3, h4⟩ := bytes_string (P := P) hs he ht h2
      have hb : xs.length ≤ big := by obtain ⟨_, _, _, _, q, _⟩ := h2; exact q.2
      exact Runs.value h3 (here hS h1 ⟨b, rfl, h4, by simpa using hb⟩)
    · simp at h
  · rename_i e b hs ht
    split at h
    · rename_i he
      obtain ⟨_, h⟩ := gd_some.mp h
      obtain ⟨bs, e1, hb, hbig⟩ := hx
      simp only [List.cons.injEq, and_true] at e1
      subst e1
      have hrun := run_bytes_of_string (P := P) w s t e bs hs ht he
      refine Runs.value hrun ?_
      have hmv := move_draw (w' := w.drew) hS rfl
      refine Post.move hmv ?_
      have hcap := grownCap_ge w bs.size 0 e
      have hlen : bs.size = b.length := by rw [← hb]; simp
      have hsl : (strEls b).length = bs.size := by simp [strEls, hlen]
      have hcells : (bytesRow bs (grownCap w bs.size 0 e)).toList = (b.map fun c => Value.int .u8 (c.toNat : Int)) ++ (Array.replicate (grownCap w bs.size 0 e - bs.size) (Value.int .u8 0)).toList := by
        rw [← hb]; simp [bytesRow]
      have hsize : (bytesRow bs (grownCap w bs.size 0 e)).size = grownCap w bs.size 0 e := by
        have := congrArg List.length hcells
        simp only [Array.length_toList, List.length_append, List.length_map, Array.size_replicate] at this
        omega
      have := alloc_arr_fz (lim := none) (cap := grownCap w bs.size 0 e) (fz := ((bytesRow bs (grownCap w bs.size 0 e)).size, (bytesRow bs (grownCap w bs.size 0 e)).size + 1)) hmv.sim (.inr ⟨Nat.le_refl _, rfl⟩) (τ := .int .u8) (xs := strEls b) ⟨by simp [Ty.width], by simpa [strEls] using hbig⟩ (strEls_rep (s := b)) hcells
        (by simp [Ty.width, hsize]) (by rw [hsl]; exact hcap) (by simp) h e ⟨List.replicate (grownCap w bs.size 0 e - bs.size) 0, by
          have := RepAll.replicate (f := RepT ok w.drew (.int .u8)) (x := (0 : Int)) (z := [Value.int .u8 0]) rfl (grownCap w bs.size 0 e - bs.size)
          simpa [List.flatten_replicate_singleton] using this⟩
      rw [hsl] at this
      exact this
    · simp at h
  · simp at h

end
end Go.Ev

/- The abstract evaluator is sound: one operation, calls apart. Own work. -/
set_option linter.unusedSimpArgs false
set_option linter.unusedVariables false
namespace Go.Ev
open Go

section
variable {P : Program} {ok : Ok} {μ : Mu} {m : Mem} {w : World}

theorem RepVs.nth : ∀ {xs : List V} {vs : List Value} {i : Nat} {x : V}, RepVs ok μ m w xs vs → xs[i]? = some x → ∃ v, vs[i]? = some v ∧ RepV ok μ m w x v
  | [], _, i, x, _, h => by simp at h
  | y :: xs, vs, 0, x, ⟨v, s, e, h1, h2⟩, h => by
    simp at h; subst h
    exact ⟨v, by simp [e], h1⟩
  | y :: xs, vs, i + 1, x, ⟨v, s, e, h1, h2⟩, h => by
    obtain ⟨u, h3, h4⟩ := RepVs.nth h2 (by simpa using h)
    exact ⟨u, by simpa [e] using h3, h4⟩

theorem envIds_sound : ∀ {xs : List AV} {vs : List Value} {ids : List Nat}, envIds xs = some ids → RepAVs ok μ m w xs vs → RepPtrs μ ids vs
  | [], vs, ids, h, hr => by
    simp only [envIds, Option.some.injEq] at h
    subst h
    exact hr
  | x :: xs, vs, ids, h, ⟨v, s, e, h1, h2⟩ => by
    unfold envIds at h
    split at h
    · rename_i heq
      simp at heq
    · rename_i id r heq
      simp only [List.cons.injEq] at heq
      obtain ⟨rfl, rfl⟩ := heq
      cases hr : envIds xs with
      | none => simp [hr] at h
      | some ids' =>
        simp only [hr, Option.map_some, Option.some.injEq] at h
        subst h
        obtain ⟨B, base, sz, hm, hv⟩ := h1
        refine ⟨v, s, e, ⟨B, base, sz, hm, ?_⟩, envIds_sound hr h2⟩
        simpa [ixOff] using hv
    · simp at h

theorem arr_map {α β : Type} (f : α → β) (a : Array α) : (a.map f).toList = a.toList.map f := by simp

/-- A value that the memory does not change. -/
theorem Runs.here {s : Sem Value} {k : AV → Mem → R} {r : AV × Mem} {av : AV} {v : Value} (hS : Sim ok μ m w) (hrun : s.run P w = .ok v w) (h : k av m = some r) (hv : RepAV ok μ m w av v) :
    Runs P (do pure (.value (← s))) w (Post ok μ m w k r) := Runs.value hrun (Ev.here hS h hv)

theorem op_sound {C : Cfg} {o : Oper} {st : St} {a : Act} {k : AV → Mem → R} {r : AV × Mem} (hS : Sim ok μ st.mem w) (ht : RepAVs ok μ st.mem w st.tmps a.tmps.toList) (h : aOp C o st k = some r)
    (hcall : ∀ c, o.op = .call c → aCall C st o.dst c k = some r → Runs C.P (execOp a.eval o) w (Post ok μ st.mem w k r)) : Runs C.P (execOp a.eval o) w (Post ok μ st.mem w k r) := by
  unfold aOp at h
  simp only at h
  split at h
  · rename_i x ho
    unfold execOp; simp only [ho]
    exact (show Runs C.P (pure (.value (a.eval x))) w (Post ok μ st.mem w k r) from by
      unfold Runs; simp only [Sem.run_pure]; exact here hS h (typed_sound (ev_sound ht x)))
  · rename_i x ho
    unfold execOp; simp only [ho]
    exact (show Runs C.P (pure (.value (a.eval x))) w (Post ok μ st.mem w k r) from by
      unfold Runs; simp only [Sem.run_pure]; exact here hS h (typed_sound (ev_sound ht x)))
  · rename_i c x y ho
    obtain ⟨b, hb, h'⟩ := boolK_some h
    have hc := ev_sound ht c
    rw [hb] at hc
    have hv := rep_bool hc
    unfold execOp; simp only [ho]
    cases b with
    | true =>
      simp only [cond_true] at h'
      unfold Runs
      simp [hv, asBool]
      exact here hS h' (ev_sound ht x)
    | false =>
      simp only [cond_false] at h'
      unfold Runs
      simp [hv, asBool]
      exact here hS h' (ev_sound ht y)
  · rename_i e ho
    obtain ⟨z, hz, h'⟩ := opt_some.mp h
    unfold execOp; simp only [ho]
    exact alloc_sound hS hz h'
  · rename_i e x ho
    obtain ⟨ls, hls, h'⟩ := opt_some.mp h
    unfold execOp; simp only [ho]
    exact box_sound hS (ev_sound ht x) hls h'
  · rename_i t parts ho
    unfold execOp; simp only [ho]
    exact build_sound hS (by rw [arr_map]; exact parts_sound ht _) h
  · rename_i t n parts ho
    unfold execOp; simp only [ho]
    exact buildSlice_sound hS (by rw [arr_map]; exact parts_sound ht _) h
  · rename_i t x ho
    unfold execOp; simp only [ho]
    exact load_runs hS (ev_sound ht x) h
  · rename_i t x y ho
    cases hi : (C.P.info? t).isSome with
    | false => simp [hi] at h
    | true =>
      simp only [hi, cond_true] at h
      unfold execOp; simp only [ho]
      exact store_runs hS (ev_sound ht x) (ev_sound ht y) h (Option.isSome_iff_exists.mp hi)
  · rename_i x ho
    obtain ⟨p, hp, h'⟩ := oneK_some h
    have hx := ev_sound ht x
    rw [hp] at hx
    unfold execOp; simp only [ho]
    have fin : ∀ {u : Value}, a.eval x = u → RepAV ok μ st.mem w (.one p) u → k (.one p) st.mem = some r → Runs C.P (pure (.value u)) w (Post ok μ st.mem w k r) := by
      intro u _ hu hk
      unfold Runs; simp only [Sem.run_pure]; exact here hS hk hu
    split at h'
    · obtain ⟨B, base, sz, hm, e⟩ := id hx
      simp only [List.cons.injEq, and_true] at e
      rw [e] at hx ⊢
      exact fin e hx h'
    · obtain ⟨B, o', c, e, _⟩ := id hx
      simp only [List.cons.injEq, and_true] at e
      rw [e] at hx ⊢
      exact fin e hx h'
    · obtain ⟨b, c, e, _⟩ := id hx
      simp only [List.cons.injEq, and_true] at e
      rw [e] at hx ⊢
      exact fin e hx h'
    · simp at h'
  · rename_i op t x y _ ho
    obtain ⟨l, z, h1, h2, h3⟩ := aBin_sound hS (ev_sound ht x) (ev_sound ht y) h x y
    unfold execOp; simp only [ho]
    exact Runs.here hS h2 h1 h3
  · rename_i op t x ho
    obtain ⟨p, hp, h'⟩ := oneK_some h
    have hx := ev_sound ht x
    rw [hp] at hx
    obtain ⟨l, z, h1, h2, h3⟩ := aUn_sound (P := C.P) hx h'
    unfold execOp; simp only [ho]
    exact Runs.here hS h2 h1 h3
  · rename_i s t x ho
    unfold execOp; simp only [ho]
    exact convert_sound hS (ev_sound ht x) h
  · rename_i f first cap ho
    obtain ⟨A, hA, h⟩ := opt_some.mp h
    obtain ⟨B, hB, h⟩ := opt_some.mp h
    unfold execOp; simp only [ho]
    refine Runs.here (v := .func (.func f) (first.map a.eval) (cap.map a.eval)) hS (by simp [Instr.makeFunc]) h ?_
    refine ⟨_, _, rfl, ?_, ?_⟩
    · rw [arr_map]; exact envIds_sound hA (evs_sound ht _)
    · rw [arr_map]; exact envIds_sound hB (evs_sound ht _)
  · rename_i t ho
    split at h
    · unfold execOp; simp only [ho]
      exact makeMap_sound hS h
    · simp at h
  · rename_i t l c ho
    split at h
    · rename_i e τ hu hτ
      obtain ⟨κ, n, h1, h'⟩ := intK_some h
      obtain ⟨κ', n', h2, h''⟩ := intK_some h'
      have e1 := ev_sound ht l
      have e2 := ev_sound ht c
      rw [h1] at e1
      rw [h2] at e2
      unfold execOp; simp only [ho]
      rw [rep_int e1, rep_int e2]
      exact makeSlice_sound hS hu hτ h''
    · simp at h
  · rename_i t x lo hi mx ho
    split at h
    · rename_i hu
      obtain ⟨p, hp, h'⟩ := oneK_some h
      have hx := ev_sound ht x
      rw [hp] at hx
      obtain ⟨l, z, h1, h2, h3⟩ := aSliceStr_sound ht hx hu h'
      unfold execOp; simp only [ho]
      exact Runs.here hS h2 h1 h3
    · rename_i e hu
      split at h
      · rename_i i hi'
        obtain ⟨p, hp, h'⟩ := oneK_some h
        have hx := ev_sound ht x
        rw [hp] at hx
        obtain ⟨l, z, h1, h2, h3⟩ := aSlice_sound hS ht hx hu hi' h'
        unfold execOp; simp only [ho]
        exact Runs.here hS h2 h1 h3
      · simp at h
    · simp at h
  · rename_i s x f ho
    obtain ⟨p, hp, h'⟩ := oneK_some h
    have hx := ev_sound ht x
    rw [hp] at hx
    obtain ⟨l, z, h1, h2, h3⟩ := aFieldAddr_sound hx h'
    unfold execOp; simp only [ho]
    exact Runs.here hS h2 h1 h3
  · rename_i t x f ho
    split at h
    · rename_i ls fl hx hf
      obtain ⟨rr, hrr, h⟩ := opt_some.mp h
      obtain ⟨y, hy, h⟩ := opt_some.mp h
      have e := ev_sound ht x
      rw [hx] at e
      obtain ⟨z, h2, h3⟩ := field_sound e hf hrr hy
      unfold execOp; simp only [ho]
      exact Runs.here hS h2 h h3
    · simp at h
  · rename_i t x i ho
    obtain ⟨p, hp, h'⟩ := oneK_some h
    obtain ⟨κ, n, hn, h''⟩ := intK_some h'
    have hx := ev_sound ht x
    have hi := ev_sound ht i
    rw [hp] at hx
    rw [hn] at hi
    obtain ⟨l, z, h1, h2, h3⟩ := aIndexAddr_sound (κ := κ) hS hx h''
    unfold execOp; simp only [ho]
    rw [rep_int hi]
    exact Runs.here hS h2 h1 h3
  · rename_i t x i ho
    obtain ⟨κ, n, hn, h'⟩ := intK_some h
    have hi := ev_sound ht i
    rw [hn] at hi
    obtain ⟨l, z, h1, h2, h3⟩ := aIndex_sound (κ := κ) (ev_sound ht x) h'
    unfold execOp; simp only [ho]
    rw [rep_int hi]
    exact Runs.here hS h2 h1 h3
  · rename_i t x i okf ho
    obtain ⟨av, v, h1, h2, h3⟩ := lookup_sound hS (ev_sound ht x) (ev_sound ht i) h
    unfold execOp; simp only [ho]
    exact Runs.here hS h3 h1 h2
  · rename_i t x i y ho
    obtain ⟨m', w', h1, h2, h3⟩ := update_sound hS (ev_sound ht x) (ev_sound ht i) (ev_sound ht y) h
    unfold execOp; simp only [ho]
    exact Runs.unit h3 ⟨_, ok, μ, m', h1, h2, rfl⟩
  · rename_i t x i y ho
    obtain ⟨m', w', h1, h2, h3⟩ := update_sound hS (ev_sound ht x) (ev_sound ht i) (ev_sound ht y) h
    unfold execOp; simp only [ho]
    exact Runs.unit h3 ⟨_, ok, μ, m', h1, h2, rfl⟩
  · rename_i x i ho
    split at h
    · rename_i vs hx
      obtain ⟨v, hv, h⟩ := opt_some.mp h
      have e := ev_sound ht x
      rw [hx] at e
      obtain ⟨us, e1, e2⟩ := e
      obtain ⟨u, h1, h2⟩ := e2.nth hv
      unfold execOp; simp only [ho]
      rw [e1]
      refine Runs.here (v := u) hS ?_ h h2
      have : us[i]? = some u := by simpa using h1
      simp [Instr.extract, this]
    · simp at h
  · rename_i c ho
    exact hcall c ho h
  · simp at h

end
end Go.Ev
