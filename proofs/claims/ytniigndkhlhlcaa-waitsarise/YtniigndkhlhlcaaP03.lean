import Derived.Test.YtniigndkhlhlcaaP02
import Derived.Laws.MakeOwn
set_option linter.all false
/- The abstract evaluator: slices, strings, fields. Own work. -/
set_option linter.unusedSimpArgs false
set_option linter.unusedVariables false
namespace Go.Ev
open Go

section
variable {P : Program} {ok : Ok} {μ : Mu} {m : Mem} {w : World}

theorem RepAll.gather {α : Type} {f : α → List Value → Prop} {wd : Nat} (hf : ∀ x c, f x c → c.length = wd) {g : Nat → Option Value} : ∀ {xs : List α} (o : Nat),
    (∀ i (h : i < xs.length), ∃ c, f xs[i] c ∧ ∀ j u, c[j]? = some u → g (o + i * wd + j) = some u) → ∃ cs, RepAll f xs cs ∧ ∀ j u, cs[j]? = some u → g (o + j) = some u
  | [], o, _ => ⟨[], rfl, by simp⟩
  | x :: xs, o, h => by
    obtain ⟨c, h1, h2⟩ := h 0 (by simp)
    obtain ⟨d, h3, h4⟩ := RepAll.gather (f := f) hf (g := g) (xs := xs) (o + wd) (fun i hi => by
      obtain ⟨c, e1, e2⟩ := h (i + 1) (by simpa using hi)
      refine ⟨c, by simpa using e1, fun j u hj => ?_⟩
      have := e2 j u hj
      rw [← this]
      congr 1
      simp [Nat.succ_mul]; omega)
    refine ⟨c ++ d, ⟨c, d, rfl, by simpa using h1, h3⟩, ?_⟩
    intro j u hj
    have hl := hf _ _ h1
    rcases Nat.lt_or_ge j c.length with hlt | hge
    · rw [List.getElem?_append_left hlt] at hj
      have := h2 j u hj
      simpa using this
    · rw [List.getElem?_append_right hge] at hj
      have := h4 _ u hj
      rw [← this]
      congr 1
      omega

/-- A slice's elements, as they can be read. -/
def Sees (ok : Ok) (w : World) (τ : Ty) (xs : List τ.El) (v : Value) : Prop :=
  ∃ a cap cs, v = .slice a xs.length cap ∧ (xs.length ≤ cap ∧ xs.length ≤ big) ∧ (a = none → cap = 0) ∧ RepAll (RepT ok w τ) xs cs ∧
    ∀ ad, a = some ad → (xs = [] ∨ ad.spot = none) ∧ ∀ j u, cs[j]? = some u → w.cell? ⟨ad.block, ad.off + j, none⟩ = some u

theorem sees_of_repT {τ : Ty} {xs : List τ.El} {v : Value} (h : RepT ok w (.sl τ) xs [v]) : Sees ok w τ xs v := by
  obtain ⟨a, cap, e, hc, hn, hs⟩ := h
  simp only [List.cons.injEq, and_true] at e
  subst e
  cases a with
  | none =>
    have := hn rfl
    have : xs = [] := List.length_eq_zero_iff.mp (by omega)
    subst this
    exact ⟨none, cap, [], rfl, hc, hn, rfl, by simp⟩
  | some ad =>
    obtain ⟨hsp, hs⟩ := hs ad rfl
    obtain ⟨cs, h1, h2⟩ := RepAll.gather (f := RepT ok w τ) (wd := τ.width) (fun _ _ h => RepT.length h) (g := fun j => w.cell? ⟨ad.block, j, none⟩) (xs := xs) ad.off (fun i hi => by
      obtain ⟨c, hc, hat⟩ := hs i hi
      exact ⟨c, hc, fun j u hj => (hat j u hj).2⟩)
    refine ⟨some ad, cap, cs, rfl, hc, by simp, h1, ?_⟩
    rintro ad' e
    cases e
    exact ⟨hsp, h2⟩

theorem View.lenN_sees {α : Type} (v : View) (xs : List α) (h : v.off + v.lenN xs.length ≤ xs.length) : (v.sees xs).length = v.lenN xs.length := by
  cases v with
  | tail o => cases o <;> simp [View.sees, View.lenN]
  | sub o k => simp [View.off, View.lenN] at h; simp [View.sees, View.lenN]; omega

theorem View.sees_get {α : Type} (v : View) (xs : List α) (i : Nat) (h : i < (v.sees xs).length) (h' : v.off + i < xs.length) : (v.sees xs)[i] = xs[v.off + i] := by
  cases v with
  | tail o => cases o <;> simp [View.sees, View.off]
  | sub o k => simp [View.sees, View.off]

theorem sees_of_ref {id : Nat} {v : View} {lim : Option Nat} {u : Value} {τ : Ty} {xs : List τ.El} {ro : Bool} (hS : Sim ok μ m w) (h : RepL ok μ m w (.ref id v lim) [u])
    (hid : m.get id = some (.arr τ xs ro)) : Sees ok w τ (v.sees xs) u := by
  obtain ⟨u', e, _, h⟩ := h
  simp only [List.cons.injEq, and_true] at e
  subst e
  simp only [hid, Option.bind_some, Obj.row] at h
  obtain ⟨a, cap, rfl, h1, h2, _, _, h3⟩ := h
  have hlen := View.lenN_sees v xs h1
  obtain ⟨_, hO⟩ := hS.objs id _ hid
  rcases h3 with ⟨B, base, sz, hm, rfl, hsz⟩ | ⟨h3, h4⟩
  · rcases hO with ⟨e, _⟩ | ⟨B', base', sz', c, E, fz, e1, e2, e3, e4, e5, e6, e7, e8⟩
    · rw [e] at hm; simp at hm
    · rw [e1] at hm
      simp only [Option.some.injEq, Prod.mk.injEq] at hm
      obtain ⟨rfl, rfl, rfl⟩ := hm
      obtain ⟨cs, g1, g2⟩ := RepAll.gather (f := RepT ok w τ) (wd := τ.width) (fun _ _ h => RepT.length h) (g := fun j => w.cell? ⟨B', j, none⟩) (xs := v.sees xs) (base' + v.off * τ.width) (fun i hi => by
        obtain ⟨c', hc, hat⟩ := e6 (v.off + i) (by omega)
        rw [View.sees_get v xs i hi (by omega)]
        refine ⟨c', hc, fun j u hj => ?_⟩
        rw [cell_of_cells e2]
        have := hat j u hj
        rw [← this]
        congr 1
        rw [Nat.add_mul]; omega)
      refine ⟨_, cap, cs, by rw [hlen], by omega, by simp, g1, ?_⟩
      rintro ad e
      cases e
      exact ⟨.inr rfl, g2⟩
  · have : v.sees xs = [] := List.length_eq_zero_iff.mp (by omega)
    rw [this]
    refine ⟨a, cap, [], by rw [h3]; rfl, by simp, fun _ => h4, rfl, ?_⟩
    intro ad _
    exact ⟨.inl rfl, by simp⟩


theorem seesAs_sound {τ : Ty} {l : Leaf} {v : Value} {k : List τ.El → R} {r : AV × Mem} (hS : Sim ok μ m w) (hl : RepL ok μ m w l [v]) (h : seesAs m τ l k = some r) :
    ∃ xs, k xs = some r ∧ Sees ok w τ xs v := by
  unfold seesAs at h
  split at h
  · rename_i σ xs nl lim
    split at h
    · rename_i e
      subst e
      exact ⟨xs, h, sees_of_repT hl.1⟩
    · split at h
      · refine ⟨[], h, ?_⟩
        obtain ⟨⟨a, cap, e, hc, hn, hs⟩, _⟩ := hl
        simp only [List.cons.injEq, and_true] at e
        subst e
        exact ⟨a, cap, [], rfl, by simp, hn, rfl, fun ad _ => ⟨.inl rfl, by simp⟩⟩
      · simp at h
  · refine ⟨[], h, ?_⟩
    simp only [RepL, List.cons.injEq, and_true] at hl
    subst hl
    exact ⟨none, 0, [], rfl, by simp, by simp, rfl, by simp⟩
  · rename_i id v' lim
    split at h
    · rename_i σ xs ro hid
      split at h
      · rename_i e
        subst e
        exact ⟨_, h, sees_of_ref hS hl hid⟩
      · simp at h
    · simp at h
  · simp at h

/-! ### bounds -/
theorem sliceBound_run {κ : IntKind} {i : Int} {y : Nat} {code : BoundsCode} (h0 : 0 ≤ i) (h1 : i ≤ y) : (Instr.sliceBound (.int κ i) y code).run P w = .ok i.toNat w := by
  simp [Instr.sliceBound, asIntOf, h0, h1]

/-- A bound that was given: which one. -/
def Bnd (x : Option Value) (n hi : Nat) : Prop := ∃ κ i, x = some (.int κ i) ∧ 0 ≤ i ∧ i ≤ hi ∧ n = i.toNat

theorem bounds_run {isSlice : Bool} {len cap : Nat} {low high max : Option Value} {l h mm : Nat}
    (hm : (max = none ∧ mm = cap) ∨ Bnd max mm cap)
    (hh : (high = none ∧ max = none ∧ h = len) ∨ Bnd high h mm)
    (hl : (low = none ∧ l = 0) ∨ Bnd low l h) : (Instr.sliceBounds isSlice len cap low high max).run P w = .ok (l, h, mm) w := by
  have key : ∀ (mm h l : Nat), (((high = none ∧ max = none ∧ h = len) ∨ Bnd high h mm)) → ((low = none ∧ l = 0) ∨ Bnd low l h) →
      ((do
        let h ← match high, max with
          | some v, some _ => Instr.sliceBound v mm .slice3B
          | some v, none => Instr.sliceBound v mm (if isSlice then .sliceAcap else .sliceAlen)
          | none, none => pure len
          | none, some _ => stuck "Slice: max without high"
        let l ← match low with
          | some v => Instr.sliceBound v h (if max.isSome then .slice3C else .sliceB)
          | none => pure 0
        pure (l, h, mm) : Sem (Nat × Nat × Nat))).run P w = .ok (l, h, mm) w := by
    rintro mm h l hh hl
    rcases hh with ⟨rfl, rfl, rfl⟩ | ⟨κ, i, rfl, h0, h1, rfl⟩
    · rcases hl with ⟨rfl, rfl⟩ | ⟨κ', i', rfl, g0, g1, rfl⟩
      · rfl
      · simp only [Sem.run_bind, Sem.run_pure, Result.andThen_ok, sliceBound_run g0 g1]
    · rcases hl with ⟨rfl, rfl⟩ | ⟨κ', i', rfl, g0, g1, rfl⟩
      · cases max <;> simp only [Sem.run_bind, Sem.run_pure, Result.andThen_ok, sliceBound_run h0 h1]
      · cases max <;> simp only [Sem.run_bind, Sem.run_pure, Result.andThen_ok, sliceBound_run h0 h1, sliceBound_run g0 g1]
  unfold Instr.sliceBounds
  rcases hm with ⟨rfl, rfl⟩ | ⟨κ, i, rfl, h0, h1, rfl⟩
  · exact key _ _ _ hh hl
  · rw [Sem.run_bind, sliceBound_run h0 h1, Result.andThen_ok]
    exact key _ _ _ hh hl

theorem boundK_sound {st : St} {a : Act} {x : Option Operand} {d hi : Nat} {k : Nat → R} {r : AV × Mem} (ht : RepAVs ok μ m w st.tmps a.tmps.toList)
    (h : boundK (x.map (ev st)) d hi k = some r) : ∃ n, k n = some r ∧ ((x = none ∧ n = d) ∨ Bnd (x.map a.eval) n hi) := by
  cases x with
  | none => exact ⟨d, h, .inl ⟨rfl, rfl⟩⟩
  | some o =>
    simp only [Option.map_some, boundK] at h
    obtain ⟨κ, i, e, h⟩ := intK_some h
    simp only [gd_some, Bool.and_eq_true, decide_eq_true_eq] at h
    obtain ⟨⟨h0, h1⟩, h⟩ := h
    have hv := ev_sound ht o
    rw [e] at hv
    exact ⟨_, h, .inr ⟨κ, i, by simp [rep_int hv], h0, h1, rfl⟩⟩

theorem Bnd.le {x : Option Value} {n hi : Nat} (h : Bnd x n hi) : n ≤ hi := by obtain ⟨κ, i, _, h0, h1, rfl⟩ := h; omega
theorem Bnd.mono {x : Option Value} {n hi hi' : Nat} (h : Bnd x n hi) (hle : hi ≤ hi') : Bnd x n hi' := by
  obtain ⟨κ, i, e, h0, h1, e'⟩ := h; exact ⟨κ, i, e, h0, by omega, e'⟩

theorem bounds3_sound {st : St} {a : Act} {lo hi mx : Option Operand} {n top cap : Nat} {k : Nat → Nat → Option Nat → R} {r : AV × Mem} (ht : RepAVs ok μ m w st.tmps a.tmps.toList)
    (htop : top ≤ cap) (hn : n ≤ top) (h : bounds3 n top (lo.map (ev st)) (hi.map (ev st)) (mx.map (ev st)) k = some r) :
    ∃ l h' m' mm, k l h' m' = some r ∧ l ≤ h' ∧ h' ≤ top ∧ h' ≤ mm ∧ mm ≤ cap ∧ ((mx = none ∧ m' = none ∧ mm = cap) ∨ (m' = some mm ∧ mx ≠ none ∧ mm ≤ top)) ∧
      (∀ b, (Instr.sliceBounds b n cap (lo.map a.eval) (hi.map a.eval) (mx.map a.eval)).run P w = .ok (l, h', mm) w) := by
  unfold bounds3 at h
  cases mx with
  | none =>
    simp only [Option.map_none] at h
    obtain ⟨h', h, hh⟩ := boundK_sound ht h
    obtain ⟨l, h, hl⟩ := boundK_sound ht h
    have e1 : h' ≤ top := by rcases hh with ⟨_, rfl⟩ | hh; exact hn; exact hh.le
    have e2 : l ≤ h' := by rcases hl with ⟨_, rfl⟩ | hl; omega; exact hl.le
    refine ⟨l, h', none, cap, h, e2, e1, by omega, Nat.le_refl _, .inl ⟨rfl, rfl, rfl⟩, fun b => bounds_run (.inl ⟨rfl, rfl⟩) ?_ ?_⟩
    · rcases hh with ⟨e, rfl⟩ | hh
      · exact .inl ⟨by simp [e], rfl, rfl⟩
      · exact .inr (hh.mono htop)
    · rcases hl with ⟨e, rfl⟩ | hl
      · exact .inl ⟨by simp [e], rfl⟩
      · exact .inr hl
  | some c =>
    simp only [Option.map_some] at h
    cases hi with
    | none => simp at h
    | some hi =>
      simp only [Option.map_some] at h
      have h2 : boundK ((some c).map (ev st)) 0 top _ = some r := h
      obtain ⟨mm, h, hmm⟩ := boundK_sound ht h2
      have hmm : Bnd ((some c).map a.eval) mm top := by rcases hmm with ⟨e, _⟩ | e; cases e; exact e
      have h3 : boundK ((some hi).map (ev st)) n mm _ = some r := h
      obtain ⟨h', h, hh⟩ := boundK_sound ht h3
      have hh : Bnd ((some hi).map a.eval) h' mm := by rcases hh with ⟨e, _⟩ | e; cases e; exact e
      obtain ⟨l, h, hl⟩ := boundK_sound ht h
      have e2 : l ≤ h' := by rcases hl with ⟨_, rfl⟩ | hl; omega; exact hl.le
      have := hmm.le
      have := hh.le
      refine ⟨l, h', some mm, mm, h, e2, by omega, by omega, by omega, .inr ⟨rfl, by simp, hmm.le⟩, fun b => bounds_run (.inr (hmm.mono htop)) (.inr hh) ?_⟩
      rcases hl with ⟨e, rfl⟩ | hl
      · exact .inl ⟨by simp [e], rfl⟩
      · exact .inr hl


theorem sliceAt_run {t : TypeId} {x : Value} {lo hi mx : Option Value} (hu : P.underlying t = some .string ∨ ∃ e, P.underlying t = some (.slice e)) :
    (Instr.sliceAt t x lo hi mx).run P w = (Instr.slice t x lo hi mx).run P w := by
  unfold Instr.sliceAt
  rcases hu with hu | ⟨e, hu⟩ <;> simp only [Sem.run_bind, run_underlying hu, Result.andThen_ok]

theorem aSliceStr_sound {st : St} {a : Act} {t : TypeId} {x : Leaf} {v : Value} {lo hi mx : Option Operand} {k : Leaf → R} {r : AV × Mem} (ht : RepAVs ok μ m w st.tmps a.tmps.toList)
    (hx : RepL ok μ m w x [v]) (hu : P.underlying t = some .string) (h : aSliceStr x (lo.map (ev st)) (hi.map (ev st)) (mx.map (ev st)) k = some r) :
    ∃ l z, k l = some r ∧ (Instr.sliceAt t v (lo.map a.eval) (hi.map a.eval) (mx.map a.eval)).run P w = .ok z w ∧ RepL ok μ m w l [z] := by
  unfold aSliceStr at h
  split at h
  · rename_i s
    obtain ⟨b, e, rfl, hbig⟩ := hx
    simp only [List.cons.injEq, and_true] at e
    subst e
    cases mx with
    | some c => simp at h
    | none =>
      simp only [Option.map_none] at h
      obtain ⟨h', h, hh⟩ := boundK_sound ht h
      obtain ⟨l, h, hl⟩ := boundK_sound ht h
      have hlen : b.data.toList.length = b.size := by simp
      rw [hlen] at hh
      refine ⟨_, .string (b.extract l h'), h, ?_, ⟨_, rfl, ?_, Nat.le_trans (by simp only [List.length_take, List.length_drop]; omega) hbig⟩⟩
      · rw [sliceAt_run (.inl hu)]
        unfold Instr.slice
        simp only [Sem.run_bind, run_underlying hu, Result.andThen_ok, Option.map_none, Option.isSome_none, Bool.false_eq_true, if_false]
        rw [bounds_run (l := l) (h := h') (mm := b.size) (.inl ⟨rfl, rfl⟩) ?_ ?_]
        · rfl
        · rcases hh with ⟨e, rfl⟩ | hh
          · exact .inl ⟨by simp [e], rfl, rfl⟩
          · exact .inr hh
        · rcases hl with ⟨e, rfl⟩ | hl
          · exact .inl ⟨by simp [e], rfl⟩
          · exact .inr hl
      · simp [ByteArray.data_extract, Array.toList_extract, List.extract]
  · simp at h

theorem RepT.sub {τ : Ty} {xs : List τ.El} {a : Option Addr} {n cap l h' mm : Nat} (hx : RepT ok w (.sl τ) xs [.slice a n cap]) (hlh : l ≤ h') (hh : h' ≤ xs.length) (hhm : h' ≤ mm) (hmc : mm ≤ cap) :
    RepT ok w (.sl τ) ((xs.drop l).take (h' - l)) [.slice (if mm = l then a else a.map (·.add (l * τ.width))) (h' - l) (mm - l)] := by
  obtain ⟨a', cap', e, hc, hn, hs⟩ := hx
  simp only [List.cons.injEq, and_true, Value.slice.injEq] at e
  obtain ⟨rfl, rfl, rfl⟩ := e
  refine ⟨_, _, by simp only [List.length_take, List.length_drop]; rw [Nat.min_eq_left (by omega)], by simp; omega, ?_, ?_⟩
  · intro ha
    cases a with
    | none => have := hn rfl; omega
    | some ad =>
      by_cases hml : mm = l
      · omega
      · simp [hml] at ha
  · intro ad had
    cases a with
    | none => by_cases hml : mm = l <;> simp [hml] at had
    | some ad0 =>
      obtain ⟨hsp, hs⟩ := hs ad0 rfl
      by_cases he : h' = l
      · have : (xs.drop l).take (h' - l) = [] := by simp [he]
        rw [this]
        exact ⟨.inl rfl, by simp⟩
      · have hml : ¬ mm = l := by omega
        simp only [hml, if_false, Option.map_some, Option.some.injEq] at had
        have hsp' : ad0.spot = none := by
          rcases hsp with rfl | hsp
          · simp at hh; omega
          · exact hsp
        have had' : ad = ⟨ad0.block, ad0.off + l * τ.width, none⟩ := by
          rw [← had, show ad0 = ⟨ad0.block, ad0.off, none⟩ from by rw [← hsp'], addr_add]
        subst had'
        refine ⟨.inr rfl, fun i hi => ?_⟩
        simp only [List.length_take, List.length_drop] at hi
        obtain ⟨c, h1, h2⟩ := hs (l + i) (by omega)
        refine ⟨c, by simpa using h1, fun j u hj => ?_⟩
        have := h2 j u hj
        rwa [show ad0.off + (l + i) * τ.width + j = ad0.off + l * τ.width + i * τ.width + j from by rw [Nat.add_mul]; omega] at this

theorem aSlice_sound {st : St} {a : Act} {t e : TypeId} {i : TypeInfo} {x : Leaf} {v : Value} {lo hi mx : Option Operand} {k : Leaf → R} {r : AV × Mem} (hS : Sim ok μ m w)
    (ht : RepAVs ok μ m w st.tmps a.tmps.toList) (hx : RepL ok μ m w x [v]) (hu : P.underlying t = some (.slice e)) (hi' : P.info? e = some i)
    (h : aSlice m i.size x (lo.map (ev st)) (hi.map (ev st)) (mx.map (ev st)) k = some r) :
    ∃ l z, k l = some r ∧ (Instr.sliceAt t v (lo.map a.eval) (hi.map a.eval) (mx.map a.eval)).run P w = .ok z w ∧ RepL ok μ m w l [z] := by
  have hsz : sizeTy P e = i.size := by simp [sizeTy, hi']
  have run : ∀ (A : Option Addr) (n cap l h' mm : Nat), (∀ b, (Instr.sliceBounds b n cap (lo.map a.eval) (hi.map a.eval) (mx.map a.eval)).run P w = .ok (l, h', mm) w) →
      (Instr.sliceAt t (.slice A n cap) (lo.map a.eval) (hi.map a.eval) (mx.map a.eval)).run P w = .ok (.slice (if mm = l then A else A.map (·.add (l * i.size))) (h' - l) (mm - l)) w := by
    intro A n cap l h' mm hb
    rw [sliceAt_run (.inr ⟨e, hu⟩)]
    unfold Instr.slice
    simp only [Sem.run_bind, run_underlying hu, Result.andThen_ok, hb, run_sizeOf w hi', hsz, Sem.run_pure]
  unfold aSlice at h
  split at h
  · rename_i τ xs nl lim
    simp only [nbeq] at h
    by_cases hw : τ.width = i.size
    · simp only [hw, decide_true, cond_true] at h
      obtain ⟨hT, A, n, cap, e1, h1, h2, h3⟩ := hx
      simp only [List.cons.injEq, and_true] at e1
      subst e1
      have hT0 := hT
      obtain ⟨A', cap', e2, hc, hn, _⟩ := hT0
      simp only [List.cons.injEq, and_true, Value.slice.injEq] at e2
      obtain ⟨rfl, rfl, rfl⟩ := e2
      obtain ⟨l, h', m', mm, hk, hlh, hh, hhm, hmc, hmm, hb⟩ := bounds3_sound (P := P) ht hc.1 (Nat.le_refl _) h
      refine ⟨_, _, hk, run _ _ _ _ _ _ hb, ?_, _, _, _, rfl, ?_, ?_, ?_⟩
      · rw [← hw]; exact hT.sub hlh hh hhm hmc
      · intro hnl; simp [h1 hnl]
      · intro hnl
        cases A with
        | none => exact absurd rfl (h2 hnl)
        | some ad => by_cases q : mm = l <;> simp [q]
      · intro c hc'
        rcases hmm with ⟨_, rfl, rfl⟩ | ⟨rfl, _⟩
        · cases lim with
          | none => simp [roomOf] at hc'
          | some c0 => simp only [roomOf, Option.some.injEq] at hc'; rw [← hc', h3 c0 rfl]
        · simp only [roomOf, Option.some.injEq] at hc'; exact hc'
    · simp [hw] at h
  · simp only [RepL, List.cons.injEq, and_true] at hx
    subst hx
    obtain ⟨l, h', m', mm, hk, hlh, hh, hhm, hmc, hmm, hb⟩ := bounds3_sound (P := P) (cap := 0) ht (Nat.le_refl _) (Nat.le_refl _) h
    refine ⟨_, _, hk, run _ _ _ _ _ _ hb, ?_⟩
    have q1 : mm = 0 := by omega
    have q2 : h' = 0 := by omega
    have q3 : l = 0 := by omega
    subst q1; subst q2; subst q3
    rfl
  · rename_i id vw lim
    split at h
    · rename_i wd n hrow
      simp only [nbeq] at h
      by_cases hw : wd = i.size
      · simp only [hw, decide_true, cond_true] at h
        obtain ⟨u, e1, hmu, hx⟩ := hx
        simp only [List.cons.injEq, and_true] at e1
        subst e1
        simp only [hrow] at hx
        obtain ⟨A, cap, rfl, g1, g2, g3, g4, g5⟩ := hx
        -- the result's leaf, whichever view
        have fin : ∀ (l h' mm : Nat) (v' : View) (lim' : Option Nat), l ≤ h' → h' ≤ mm → mm ≤ cap → h' ≤ n - vw.off → v'.off = vw.off + l → v'.lenN n = h' - l →
            (∀ c, lim' = some c → mm - l = c) → (lim' = none → mm = cap ∧ lim = none) →
            RepL ok μ m w (.ref id v' lim') [.slice (if mm = l then A else A.map (·.add (l * i.size))) (h' - l) (mm - l)] := by
          intro l h' mm v' lim' q1 q2 q3 q4 q5 q6 q7 q8
          refine ⟨_, rfl, hmu, ?_⟩
          simp only [hrow]
          rw [q5, q6]
          refine ⟨_, _, rfl, by omega, by omega, q7, ?_, ?_⟩
          · intro hl
            obtain ⟨r1, r2⟩ := q8 hl
            have := g4 r2
            omega
          · by_cases hml : mm = l
            · exact .inr ⟨by omega, by omega⟩
            · rcases g5 with ⟨B, base, sz, p1, rfl, p2⟩ | ⟨p1, p2⟩
              · refine .inl ⟨B, base, sz, p1, ?_, ?_⟩
                · simp only [hml, if_false, Option.map_some, addr_add, hw, Nat.add_mul, Option.some.injEq, Addr.mk.injEq, true_and, and_true]
                  omega
                · refine Nat.le_trans (Nat.add_le_add_left (Nat.mul_le_mul_right _ ?_) _) p2
                  omega
              · exact .inr ⟨by omega, by omega⟩
        split at h
        · rename_i hhi
          have hhi' : hi = none := by cases hi; rfl; simp at hhi
          subst hhi'
          split at h
          · rename_i hmx
            have hmx' : mx = none := by cases mx; rfl; simp at hmx
            subst hmx'
            obtain ⟨l, hk, hl⟩ := boundK_sound ht h
            have hle : l ≤ vw.lenN n := by rcases hl with ⟨_, rfl⟩ | hl; omega; exact hl.le
            refine ⟨_, _, hk, run A (vw.lenN n) cap l (vw.lenN n) cap (fun b => bounds_run (.inl ⟨rfl, rfl⟩) (.inl ⟨rfl, rfl, rfl⟩) ?_), fin l (vw.lenN n) cap _ _ hle g2 (Nat.le_refl _) (by omega) ?_ ?_ ?_ ?_⟩
            · rcases hl with ⟨e, rfl⟩ | hl
              · exact .inl ⟨by simp [e], rfl⟩
              · exact .inr hl
            · cases vw <;> rfl
            · cases vw with
              | tail o => simp only [View.lenN]; omega
              | sub o j => rfl
            · intro c hc
              cases lim with
              | none => simp [roomOf] at hc
              | some c0 => simp only [roomOf, Option.some.injEq] at hc; rw [← hc, g3 c0 rfl]
            · intro hc
              cases lim with
              | none => exact ⟨rfl, rfl⟩
              | some c0 => simp [roomOf] at hc
          · simp at h
        · rename_i hi0 hhi
          have htop : (match lim with | some c => min c (n - vw.off) | none => n - vw.off) ≤ cap := by
            cases lim with
            | none => have := g4 rfl; simp only; omega
            | some c => have := g3 c rfl; simp only; omega
          have hntop : vw.lenN n ≤ (match lim with | some c => min c (n - vw.off) | none => n - vw.off) := by
            cases lim with
            | none => simp only; omega
            | some c => have := g3 c rfl; simp only; omega
          have htop2 : (match lim with | some c => min c (n - vw.off) | none => n - vw.off) ≤ n - vw.off := by cases lim <;> simp only <;> omega
          obtain ⟨l, h', m', mm, hk, hlh, hh, hhm, hmc, hmm, hb⟩ := bounds3_sound (P := P) ht htop hntop h
          refine ⟨_, _, hk, run _ _ _ _ _ _ hb, fin l h' mm _ _ hlh hhm hmc (by omega) rfl rfl ?_ ?_⟩
          · intro c hc
            rcases hmm with ⟨_, rfl, rfl⟩ | ⟨rfl, _⟩
            · cases lim with
              | none => simp [roomOf] at hc
              | some c0 => simp only [roomOf, Option.some.injEq] at hc; rw [← hc, g3 c0 rfl]
            · simp only [roomOf, Option.some.injEq] at hc; exact hc
          · intro hc
            rcases hmm with ⟨_, rfl, rfl⟩ | ⟨rfl, _⟩
            · cases lim with
              | none => exact ⟨rfl, rfl⟩
              | some c0 => simp [roomOf] at hc
            · simp [roomOf] at hc
      · simp [hw] at h
    · simp at h
  · simp at h

end
end Go.Ev

/- The abstract evaluator: addresses, elements, fields. Own work. -/
set_option linter.unusedSimpArgs false
set_option linter.unusedVariables false
namespace Go.Ev
open Go

section
variable {P : Program} {ok : Ok} {μ : Mu} {m : Mem} {w : World}

theorem aIndexAddr_sound {t : TypeId} {x : Leaf} {v : Value} {κ : IntKind} {i : Int} {k : Leaf → R} {r : AV × Mem} (hS : Sim ok μ m w) (hx : RepL ok μ m w x [v])
    (h : aIndexAddr P m t x i k = some r) :
    ∃ l z, k l = some r ∧ (Instr.indexAt t v (.int κ i)).run P w = .ok z w ∧ RepL ok μ m w l [z] := by
  unfold aIndexAddr at h
  split at h
  · rename_i n e hu
    split at h
    · rename_i ie hie
      have hsz : sizeTy P e = ie.size := by simp [sizeTy, hie]
      have run : ∀ ad, 0 ≤ i → i < n → (Instr.indexAt t (.pointer (some ad)) (.int κ i)).run P w = .ok (.pointer (some (ad.add (i.toNat * ie.size)))) w := by
        intro ad h0 h1
        simp [Instr.indexAt, asIntOf, Sem.run_bind, run_underlying hu, Instr.sureAddr, h0, h1, run_sizeOf w hie, hsz]
      split at h
      · rename_i id off
        simp only [gd_some, Bool.and_eq_true, decide_eq_true_eq] at h
        obtain ⟨⟨h0, h1⟩, hk⟩ := h
        obtain ⟨B, base, sz, hm, hv⟩ := hx
        simp only [List.cons.injEq, and_true] at hv
        subst hv
        refine ⟨_, _, hk, run _ h0 h1, B, base, sz, hm, ?_⟩
        rw [addr_add]
        simp [ixOff]
      · rename_i n' e' xs
        simp only [gd_some, Bool.and_eq_true, decide_eq_true_eq, nbeq] at h
        obtain ⟨⟨⟨⟨hn, hw⟩, h0⟩, h1⟩, h1'⟩ := h.1
        have hk := h.2
        obtain ⟨B, o, c, hv, hx, hat⟩ := hx
        simp only [List.cons.injEq, and_true, Nat.add_zero] at hv
        subst hv
        obtain ⟨hl, hall⟩ := hx
        have hi : i.toNat < xs.length := by omega
        obtain ⟨p1, p2, p3, hp, hlp, hx⟩ := hall.nth (fun _ _ h => RepT.length h) i.toNat hi
        refine ⟨_, _, hk, run _ h0 h1, B, o + i.toNat * ie.size, p2, ?_, ?_, ?_⟩
        · rw [addr_add]; rfl
        · rw [getD_get _ _ _ hi]; exact hx
        · intro j u hj
          have := hat _ _ (list_mid hp hj)
          rw [hlp, hw] at this
          rwa [show o + i.toNat * ie.size + j = o + (i.toNat * ie.size + j) from by omega]
      · simp at h
    · simp at h
  · rename_i e hu
    split at h
    · rename_i ie hie
      have hsz : sizeTy P e = ie.size := by simp [sizeTy, hie]
      have run : ∀ (ad : Addr) (n cap : Nat), 0 ≤ i → i < n → (Instr.indexAt t (.slice (some ad) n cap) (.int κ i)).run P w = .ok (.pointer (some (ad.add (i.toNat * ie.size)))) w := by
        intro ad n cap h0 h1
        simp [Instr.indexAt, asIntOf, Sem.run_bind, run_underlying hu, h0, h1, run_sizeOf w hie, hsz]
      split at h
      · rename_i τ xs nl lim
        simp only [gd_some, Bool.and_eq_true, decide_eq_true_eq, nbeq] at h
        obtain ⟨⟨⟨hw, h0⟩, h1⟩, hk⟩ := h
        obtain ⟨⟨A, cap, ev, hc, hn, hs⟩, _⟩ := hx
        simp only [List.cons.injEq, and_true] at ev
        subst ev
        have hi : i.toNat < xs.length := by omega
        cases A with
        | none => have := hn rfl; omega
        | some ad =>
          obtain ⟨hsp, hs⟩ := hs ad rfl
          have hsp' : ad.spot = none := by
            rcases hsp with rfl | hsp
            · simp at hi
            · exact hsp
          obtain ⟨c, h2, h3⟩ := hs _ hi
          refine ⟨_, _, hk, run _ _ _ h0 h1, ad.block, ad.off + i.toNat * ie.size, c, ?_, ?_, ?_⟩
          · rw [show ad = ⟨ad.block, ad.off, none⟩ from by rw [← hsp'], addr_add]; rfl
          · rw [getD_get _ _ _ hi]; exact h2
          · rw [← hw]; exact h3
      · rename_i id vw lim
        split at h
        · rename_i wd n hrow
          simp only [gd_some, Bool.and_eq_true, decide_eq_true_eq, nbeq] at h
          obtain ⟨⟨⟨hw, h0⟩, h1⟩, hk⟩ := h
          obtain ⟨u, e1, hmu, hx⟩ := hx
          simp only [List.cons.injEq, and_true] at e1
          subst e1
          simp only [hrow] at hx
          obtain ⟨A, cap, rfl, g1, g2, g3, g4, g5⟩ := hx
          rcases g5 with ⟨B, base, sz, p1, rfl, p2⟩ | ⟨p1, p2⟩
          · refine ⟨_, _, hk, run _ _ _ h0 h1, B, base, sz, p1, ?_⟩
            rw [addr_add]
            simp only [ixOff, List.cons.injEq, Value.pointer.injEq, Option.some.injEq, Addr.mk.injEq, true_and, and_true, ← hw, Nat.add_mul]
            omega
          · omega
        · simp at h
      · simp at h
    · simp at h
  · simp at h

theorem aFieldAddr_sound {t : TypeId} {x : Leaf} {v : Value} {f : Nat} {k : Leaf → R} {r : AV × Mem} (hx : RepL ok μ m w x [v])
    (h : aFieldAddr P t x f k = some r) :
    ∃ l z, k l = some r ∧ (Instr.fieldAt t v f).run P w = .ok z w ∧ RepL ok μ m w l [z] := by
  unfold aFieldAddr fieldOf at h
  split at h
  · rename_i fl hfl
    split at hfl
    · rename_i fs hu
      simp only [nbeq] at h
      by_cases hz : sizeTy P fl.type = 0
      · simp [hz] at h
      · simp only [hz, decide_false, cond_false] at h
        have hi : ∃ i, P.info? fl.type = some i := by
          cases hi : P.info? fl.type with
          | none => simp [sizeTy, hi] at hz
          | some i => exact ⟨i, rfl⟩
        obtain ⟨i, hi⟩ := hi
        have run : ∀ ad, (Instr.fieldAt t (.pointer (some ad)) f).run P w = .ok (.pointer (some (ad.add fl.offset))) w := by
          intro ad
          simp [Instr.fieldAt, Sem.run_bind, run_underlying hu, hfl, Instr.sureAddr, fieldPlace, run_sizeOf w hi, hz]
        split at h
        · rename_i id off
          obtain ⟨B, base, sz, hm, hv⟩ := hx
          simp only [List.cons.injEq, and_true] at hv
          subst hv
          refine ⟨_, _, h, run _, B, base, sz, hm, ?_⟩
          rw [addr_add]; simp [ixOff, Nat.add_assoc]
        · rename_i id off i' wd sub
          obtain ⟨B, base, sz, hm, hv⟩ := hx
          simp only [List.cons.injEq, and_true] at hv
          subst hv
          refine ⟨_, _, h, run _, B, base, sz, hm, ?_⟩
          rw [addr_add]; simp [ixOff, Nat.add_assoc]
        · rename_i τ y off
          obtain ⟨B, o, c, hv, hx, hat⟩ := hx
          simp only [List.cons.injEq, and_true] at hv
          subst hv
          refine ⟨_, _, h, run _, B, o, c, ?_, hx, hat⟩
          rw [addr_add]; simp [Nat.add_assoc]
        · simp at h
    · simp at hfl
  · simp at h

/-- A part of a value with cells. -/
theorem part_run {t : TypeId} {ls : List Leaf} {cs : Array Value} {c d e : List Value} {v : V} {off : Nat} (hx : cs.toList = c ++ d ++ e) (hc : c.length = off) (hd : d.length = sizeTy P t)
    (hr : RepLs ok μ m w ls d) (hv : mkV P t ls = some v) : ∃ u, (part t cs off).run P w = .ok u w ∧ RepV ok μ m w v u := by
  obtain ⟨D, hu, h⟩ := mkV_sound hv hr
  rcases h with ⟨ha, rfl, hv⟩ | ⟨ha, u, rfl, hv⟩
  · obtain ⟨u, h1, D', hu', h2⟩ := part_sound (P := P) (w := w) hx hc hd hu (fun h => by rw [ha] at h; cases h)
    obtain rfl : D = D' := by rw [hu] at hu'; exact Option.some.inj hu'
    rcases h2 with ⟨_, rfl⟩ | ⟨h3, _⟩
    · exact ⟨_, h1, hv⟩
    · rw [ha] at h3; cases h3
  · obtain ⟨u', h1, D', hu', h2⟩ := part_sound (P := P) (w := w) hx hc hd hu (fun _ => rfl)
    obtain rfl : D = D' := by rw [hu] at hu'; exact Option.some.inj hu'
    rcases h2 with ⟨h3, _⟩ | ⟨_, h3⟩
    · rw [ha] at h3; cases h3
    · simp only [List.cons.injEq, and_true] at h3
      subst h3
      exact ⟨_, h1, hv⟩

theorem aIndex_sound {t : TypeId} {x : AV} {v : Value} {κ : IntKind} {i : Int} {k : AV → R} {r : AV × Mem} (hx : RepAV ok μ m w x v) (h : aIndex P t x i k = some r) :
    ∃ y z, k y = some r ∧ (Instr.index t v (.int κ i)).run P w = .ok z w ∧ RepAV ok μ m w y z := by
  unfold aIndex at h
  split at h
  · rename_i s hu
    simp only [gd_some, Bool.and_eq_true, decide_eq_true_eq] at h
    obtain ⟨⟨h0, h1⟩, hk⟩ := h
    obtain ⟨b, e, rfl, _⟩ := hx
    simp only [List.cons.injEq, and_true] at e
    subst e
    have hi : i.toNat < b.size := by
      have : b.data.toList.length = b.size := by simp
      omega
    refine ⟨_, _, hk, ?_, rfl⟩
    have hb : b[i.toNat]? = some b[i.toNat] := by simp [hi]
    simp only [Instr.index, asIntOf, Sem.run_bind, Sem.run_pure, Result.andThen_ok, run_underlying hu, h0, if_true, hb]
    congr 3
    have hd : i.toNat < b.data.toList.length := by simpa using hi
    rw [getD_get _ _ _ hd]
    simp
    rfl
  · rename_i n e n' τ xs hu
    split at h
    · rename_i ie hie
      simp only [gd_some, Bool.and_eq_true, decide_eq_true_eq, nbeq, opt_some] at h
      obtain ⟨⟨⟨⟨hn, hw⟩, h0⟩, h1⟩, y, hy, hk⟩ := h
      obtain ⟨cs, rfl, hr⟩ := hx
      obtain ⟨hl, hall⟩ := RepAll.one.mp hr
      have hi : i.toNat < xs.length := by omega
      obtain ⟨p1, p2, p3, hp, hlp, hx⟩ := hall.nth (fun _ _ h => RepT.length h) i.toNat hi
      rw [getD_get _ _ _ hi] at hy
      have hsz : sizeTy P e = ie.size := by simp [sizeTy, hie]
      obtain ⟨u, hrun, hrep⟩ := part_run (P := P) (off := i.toNat * ie.size) hp (by rw [hlp, hw]) (by rw [RepT.length hx, hw, hsz]) (leaves_of_repT (m := m) (μ := μ) hx) hy
      refine ⟨_, u, hk, ?_, hrep⟩
      simp only [Instr.index, asIntOf, Sem.run_bind, Sem.run_pure, Result.andThen_ok, run_underlying hu, h0, h1, and_self, if_true, run_sizeOf w hie, hsz]
      exact hrun
    · simp at h
  · simp at h

theorem field_sound {t : TypeId} {ls rr : List Leaf} {v : Value} {f : Nat} {fl : Field} {y : V} (hx : RepV ok μ m w (.agg ls) v) (hf : fieldOf P t f = some fl)
    (hc : cutW ls fl.offset (sizeTy P fl.type) = some rr) (hy : mkV P fl.type rr = some y) : ∃ z, (Instr.field t v f).run P w = .ok z w ∧ RepV ok μ m w y z := by
  obtain ⟨cs, rfl, hr⟩ := hx
  obtain ⟨c, d, e, h1, h2, h3, h4⟩ := cutW_sound hc hr
  obtain ⟨u, hrun, hrep⟩ := part_run (P := P) h1 h2 h3 h4 hy
  refine ⟨u, ?_, hrep⟩
  unfold fieldOf at hf
  split at hf
  · rename_i fs hu
    simp only [Instr.field, Sem.run_bind, run_underlying hu, Result.andThen_ok, hf, asAgg, Sem.run_pure]
    exact hrun
  · simp at hf

end
end Go.Ev

/- The abstract evaluator: zero values, new objects, stores. Own work. -/
set_option linter.unusedSimpArgs false
set_option linter.unusedVariables false
namespace Go.Ev
open Go

section
variable {P : Program} {ok : Ok} {μ : Mu} {m : Mem} {w : World}

theorem oneC_eq (v : Value) : oneC v = v.oneCell' := by cases v <;> rfl

theorem RepAll.all {α : Type} {f : α → List Value → Prop} {q : Value → Prop} (hf : ∀ x c, f x c → ∀ v ∈ c, q v) : ∀ {xs : List α} {cs : List Value}, RepAll f xs cs → ∀ v ∈ cs, q v
  | [], cs, h => by simp only [RepAll] at h; simp [h]
  | x :: xs, cs, ⟨c, d, e, h1, h2⟩ => by
    intro v hv
    rw [e, List.mem_append] at hv
    rcases hv with hv | hv
    · exact hf _ _ h1 v hv
    · exact h2.all hf v hv

theorem RepT.one : ∀ {t : Ty} {x : t.El} {cs : List Value}, RepT ok w t x cs → ∀ v ∈ cs, oneC v = true := by
  intro t
  induction t with
  | bool => intro x cs h; simp only [RepT] at h; simp [h, oneC]
  | int k => intro x cs h; simp only [RepT] at h; simp [h, oneC]
  | str => intro x cs h; obtain ⟨b, rfl, _⟩ := h; simp [oneC]
  | fn => intro x cs h; cases x <;> (simp only [RepT] at h; simp [h, oneC])
  | sl e => intro x cs h; obtain ⟨a, cap, rfl, _⟩ := h; simp [oneC]
  | ar n e ih => intro x cs h; exact RepAll.all (fun _ _ h => ih h) h.2
  | pair a b iha ihb =>
    intro x cs h v hv
    obtain ⟨c, d, rfl, h1, h2⟩ := h
    rw [List.mem_append] at hv
    rcases hv with hv | hv
    · exact iha h1 v hv
    · exact ihb h2 v hv

theorem RepL.one {l : Leaf} {cs : List Value} (h : RepL ok μ m w l cs) : ∀ v ∈ cs, oneC v = true := by
  cases l with
  | undef => obtain ⟨v, rfl, h⟩ := h; simpa using h
  | str s => obtain ⟨b, rfl, _⟩ := h; simp [oneC]
  | fn f a b => obtain ⟨_, _, rfl, _⟩ := h; simp [oneC]
  | sl τ xs nl lim => exact RepT.one h.1
  | ar n τ xs => exact RepT.one h
  | ref id v lim =>
    obtain ⟨u, rfl, _, h⟩ := h
    split at h
    · obtain ⟨a, cap, rfl, _⟩ := h; simp [oneC]
    · obtain ⟨a, l, c, rfl⟩ := h; simp [oneC]
  | ptr id off ix => obtain ⟨_, _, _, _, rfl⟩ := h; simp [oneC]
  | cptr τ x off => obtain ⟨_, _, _, rfl, _⟩ := h; simp [oneC]
  | map id => obtain ⟨_, _, _, _, rfl⟩ := h; simp [oneC]
  | _ => simp only [RepL] at h; simp [h, oneC]

theorem RepLs.one {ls : List Leaf} {cs : List Value} (h : RepLs ok μ m w ls cs) : ∀ v ∈ cs, oneC v = true := RepAll.all (fun _ _ h => RepL.one h) h

/-! ### zero values -/
theorem sameZ1_sound {l : Leaf} {v : Value} (h : sameZ1 l v = true) : RepL ok μ m w l [v] := by
  unfold sameZ1 at h
  split at h
  · simp only [beq_iff_eq] at h; subst h; rfl
  · simp only [Bool.and_eq_true, decide_eq_true_eq, beq_iff_eq] at h; obtain ⟨rfl, rfl⟩ := h; rfl
  · rename_i s
    exact ⟨s, rfl, by simpa using h⟩
  · rfl
  · rename_i τ
    exact ⟨⟨none, 0, rfl, by simp, by simp, by simp⟩, none, 0, 0, rfl, by simp, by simp, by simp⟩
  · rename_i τ
    exact ⟨⟨none, 0, rfl, by simp, by simp, by simp⟩, none, 0, 0, rfl, by simp, by simp, by simp⟩
  · rfl
  · rfl
  · rfl
  · cases h

theorem sameZ_sound : ∀ {ls : List Leaf} {vs : List Value}, sameZ ls vs = true → RepLs ok μ m w ls vs
  | [], [], _ => rfl
  | [], _ :: _, h => by simp [sameZ] at h
  | l :: ls, [], h => by simp [sameZ] at h
  | l :: ls, v :: vs, h => by
    simp only [sameZ, Bool.and_eq_true] at h
    exact ⟨[v], vs, rfl, sameZ1_sound h.1, sameZ_sound h.2⟩

theorem sameZ_append : ∀ {a b : List Leaf} {vs : List Value}, sameZ (a ++ b) vs = true → ∃ c d, vs = c ++ d ∧ sameZ a c = true ∧ sameZ b d = true
  | [], b, vs, h => ⟨[], vs, rfl, rfl, h⟩
  | l :: a, b, [], h => by simp [sameZ] at h
  | l :: a, b, v :: vs, h => by
    simp only [List.cons_append, sameZ, Bool.and_eq_true] at h
    obtain ⟨c, d, rfl, h1, h2⟩ := sameZ_append h.2
    exact ⟨v :: c, d, rfl, by simp [sameZ, h.1, h1], h2⟩

theorem sameZ_all {τ : Ty} (ih : ∀ {x : τ.El} {cs : List Value}, sameZ (τ.flat x) cs = true → RepT ok w τ x cs) : ∀ {xs : List τ.El} {vs : List Value},
    sameZ ((xs.map τ.flat).flatten) vs = true → RepAll (RepT ok w τ) xs vs
  | [], vs, h => by cases vs <;> simp [sameZ] at h; rfl
  | x :: xs, vs, h => by
    simp only [List.map_cons, List.flatten_cons] at h
    obtain ⟨c, d, rfl, h1, h2⟩ := sameZ_append h
    exact ⟨c, d, rfl, ih h1, sameZ_all ih h2⟩

theorem flat_sound : ∀ {t : Ty} {x : t.El} {cs : List Value}, sameZ (t.flat x) cs = true → RepT ok w t x cs := by
  intro t
  -- the memory does not matter here
  have one : ∀ (l : Leaf) {cs : List Value}, sameZ [l] cs = true → ∃ v, cs = [v] ∧ sameZ1 l v = true := by
    intro l cs h
    cases cs with
    | nil => simp [sameZ] at h
    | cons v vs => cases vs with
      | nil => exact ⟨v, rfl, by simpa [sameZ] using h⟩
      | cons _ _ => simp [sameZ] at h
  induction t with
  | bool => intro x cs h; obtain ⟨v, rfl, h'⟩ := one (.bool x) h; exact sameZ1_sound (ok := ok) (μ := fun _ => none) (m := []) (w := w) h'
  | int k => intro x cs h; obtain ⟨v, rfl, h'⟩ := one (.int k x) h; exact sameZ1_sound (ok := ok) (μ := fun _ => none) (m := []) (w := w) h'
  | str => intro x cs h; obtain ⟨v, rfl, h'⟩ := one (.str x) h; exact sameZ1_sound (ok := ok) (μ := fun _ => none) (m := []) (w := w) h'
  | fn =>
    intro x cs h
    cases x with
    | none => obtain ⟨v, rfl, h'⟩ := one .nilfn h; exact sameZ1_sound (ok := ok) (μ := fun _ => none) (m := []) (w := w) h'
    | some f =>
      obtain ⟨v, rfl, h'⟩ := one (.fn f [] []) h
      simp only [sameZ1] at h'
      exact absurd h' (by simp)
  | sl e _ => intro x cs h; obtain ⟨v, rfl, h'⟩ := one (.sl e x none none) h; exact (sameZ1_sound (ok := ok) (μ := fun _ => none) (m := []) (w := w) h').1
  | ar n e ih => intro x cs h; obtain ⟨v, rfl, h'⟩ := one .undef h; simp only [sameZ1] at h'; exact absurd h' (by simp)
  | pair a b iha ihb =>
    intro x cs h
    obtain ⟨c, d, rfl, h1, h2⟩ := sameZ_append h
    exact ⟨c, d, rfl, iha h1, ihb h2⟩

theorem zeroLs_sound : ∀ {ls : List Leaf} {vs : List Value}, zeroLs ls vs = true → RepLs ok μ m w ls vs
  | [], [], _ => rfl
  | [], _ :: _, h => by simp [zeroLs] at h
  | l :: ls, vs, h => by
    cases l with
    | ar n τ xs =>
      simp only [zeroLs, Bool.and_eq_true, nbeq, decide_eq_true_eq] at h
      obtain ⟨⟨h1, h2⟩, h3⟩ := h
      exact ⟨_, _, (List.take_append_drop _ _).symm, ⟨h1, sameZ_all flat_sound h2⟩, zeroLs_sound h3⟩
    | _ =>
      cases vs with
      | nil => simp [zeroLs] at h
      | cons v vs =>
        simp only [zeroLs, Bool.and_eq_true] at h
        exact ⟨[v], vs, rfl, sameZ1_sound h.1, zeroLs_sound h.2⟩

theorem zeroIs_sound {t : TypeId} {ls : List Leaf} (h : zeroIs P t ls = true) : ∃ i z, P.info? t = some i ∧ i.zero = some z ∧ ∀ (ok : Ok) (μ : Mu) (m : Mem) (w : World), RepLs ok μ m w ls z.cells.toList := by
  unfold zeroIs at h
  split at h
  · rename_i i hi
    split at h
    · rename_i z hz
      exact ⟨i, z, hi, hz, fun _ _ _ _ => zeroLs_sound h⟩
    · cases h
  · cases h

theorem zero_sound {t : TypeId} {ls : List Leaf} (h : zero P t = some ls) : ∃ i z, P.info? t = some i ∧ i.zero = some z ∧ ∀ (ok : Ok) (μ : Mu) (m : Mem) (w : World), RepLs ok μ m w ls z.cells.toList := by
  unfold zero at h
  split at h
  · rename_i ls' e
    cases hz : zeroIs P t ls' with
    | false => simp [hz] at h
    | true =>
      simp only [hz, cond_true, Option.some.injEq] at h
      subst h
      exact zeroIs_sound hz
  · simp at h

/-! ### new objects -/
theorem heap_new (w : World) (X : Go.Obj) : (w.alloc X).heap[w.heap.size]? = some X := by
  show (w.heap.push X)[w.heap.size]? = some X
  simp

theorem allocAt_some {d : Option Tmp} {o : Obj} {k : Nat → Mem → R} {r : AV × Mem} (h : allocAt m d o k = some r) : ∃ i, d = some i ∧ m.get (ownId i) = none ∧ k (ownId i) (m.set (ownId i) o) = some r := by
  unfold allocAt at h
  split at h
  · rename_i i
    split at h
    · rename_i e
      exact ⟨i, rfl, e, h⟩
    · simp at h
  · simp at h

theorem alloc_box {d : Option Tmp} {ls : List Leaf} {cs : Array Value} {k : AV → Mem → R} {r : AV × Mem} (hS : Sim ok μ m w) (hr : RepLs ok μ m w ls cs.toList)
    (h : allocAt m d (.box false ls) (fun id m' => k (.one (.ptr id 0 none)) m') = some r) (E : TypeId) :
    Post ok μ m w k r (.pointer (some ⟨w.heap.size, 0, none⟩)) (w.alloc (.cells cs E)) := by
  obtain ⟨i, rfl, hid, h⟩ := allocAt_some h
  have hst := step_alloc (w' := w.alloc (.cells cs E)) hS hid (.box false ls) (some (w.heap.size, 0, cs.size)) rfl
  have hmv := move_alloc (w' := w.alloc (.cells cs E)) (o := .box false ls) (sz := cs.size) hS hid rfl
    ⟨w.heap.size, cs.size, cs, E, (0, 0), Mu.put_self _ _ _, heap_new w _, rfl, .inl rfl, hr.step' hS hst, fun o ho => by have := hS.okb _ _ ho; omega⟩
  exact ⟨_, ok, _, _, h, hmv, w.heap.size, 0, cs.size, Mu.put_self _ _ _, rfl⟩

theorem alloc_sound {d : Option Tmp} {t : TypeId} {z : List Leaf} {k : AV → Mem → R} {r : AV × Mem} (hS : Sim ok μ m w) (hz : zero P t = some z)
    (h : allocAt m d (.box false z) (fun id m' => k (.one (.ptr id 0 none)) m') = some r) : Runs P (do pure (.value (← Instr.alloc t true (.tuple #[])))) w (Post ok μ m w k r) := by
  obtain ⟨i, zv, hi, hzv, hrep⟩ := zero_sound hz
  refine Runs.value ?_ (alloc_box hS (hrep ok μ m w) h t)
  simp only [Instr.alloc, Sem.run_bind, zeroValue, typeInfo, run_program, Result.andThen_ok, hi, hzv, Sem.run_pure]
  rfl

theorem typed_sound {t : TypeId} {v : AV} {u : Value} (h : RepAV ok μ m w v u) : RepAV ok μ m w (typed P t v) u := by
  unfold typed
  split
  · obtain rfl := rep_nilsl h
    unfold nilSl
    split
    · exact ⟨⟨none, 0, rfl, by simp, by simp, by simp⟩, none, 0, 0, rfl, by simp, by simp, by simp⟩
    · exact h
  · exact h

theorem leavesAs_sound {t : TypeId} {v : AV} {u : Value} {ls : List Leaf} (h : leavesAs P t v = some ls) (hv : RepAV ok μ m w v u) :
    RepLs ok μ m w ls u.cells.toList ∧ u.cells.size = sizeTy P t := by
  unfold leavesAs at h
  have ht := typed_sound (P := P) (t := t) hv
  split at h
  · rename_i x e
    rw [e] at ht
    simp only [nbeq] at h
    by_cases hw : widths x.leaves = sizeTy P t
    · simp only [hw, decide_true, cond_true, Option.some.injEq] at h
      subst h
      have key : RepLs ok μ m w x.leaves u.cells.toList := by
        cases x with
        | one l =>
          have h1 : RepL ok μ m w l [u] := ht
          have ho := RepL.one h1 u (by simp)
          have : u.cells = #[u] := by cases u <;> first | rfl | simp [oneC] at ho
          rw [this]
          exact RepAll.one.mpr h1
        | agg ls =>
          obtain ⟨cs, rfl, h1⟩ := ht
          exact h1
      refine ⟨key, ?_⟩
      have := RepLs.length key
      rw [hw] at this
      simpa using this
    · simp [hw] at h
  · simp at h

theorem box_sound {d : Option Tmp} {t : TypeId} {v : AV} {u : Value} {ls : List Leaf} {k : AV → Mem → R} {r : AV × Mem} (hS : Sim ok μ m w) (hv : RepAV ok μ m w v u)
    (hl : leavesAs P t v = some ls) (h : allocAt m d (.box false ls) (fun id m' => k (.one (.ptr id 0 none)) m') = some r) :
    Runs P (do pure (.value (← Instr.box t u))) w (Post ok μ m w k r) := by
  obtain ⟨h1, _⟩ := leavesAs_sound hl hv
  refine Runs.value ?_ (alloc_box hS h1 h t)
  simp only [Instr.box, Sem.run_bind, Sem.run_pure]
  rfl

/-! ### stores -/
theorem free_frozen {B o : Nat} {c : Array Value} {E : TypeId} {fz : Nat × Nat} (h : w.heap[B]? = some (.cells c E fz)) (hf : Free fz c.size) (ho : o < c.size) : w.frozen? ⟨B, o, none⟩ = false := by
  obtain ⟨lo, hi⟩ := fz
  simp only [World.frozen?, h]
  rcases hf with hf | hf
  · simp only at hf; subst hf; simp
  · simp only at hf
    have : ¬ lo ≤ o := by omega
    simp [this]

theorem storeCells_run {B o : Nat} {E : TypeId} {fz : Nat × Nat} : ∀ (vs : List Value) (i : Nat) {cur : Array Value} {w : World} {c d e : List Value}, w.heap[B]? = some (.cells cur E fz) → Free fz cur.size →
    cur.toList = c ++ d ++ e → c.length = o + i → d.length = vs.length → (∀ v ∈ vs, oneC v = true) → (storeCells ⟨B, o, none⟩ vs i).run P w = .ok () (w.setRow B (c ++ vs ++ e).toArray)
  | [], i, cur, w, c, d, e, hb, hf, hx, hc, hd, h1 => by
    have : d = [] := List.length_eq_zero_iff.mp hd
    subst this
    rw [← hx, Array.toArray_toList, setRow_self w B cur E fz hb]
    rfl
  | v :: vs, i, cur, w, c, [], e, hb, hf, hx, hc, hd, h1 => by simp at hd
  | v :: vs, i, cur, w, c, u :: d, e, hb, hf, hx, hc, hd, h1 => by
    have hsize : o + i < cur.size := by
      have h2 := congrArg List.length hx
      simp only [List.length_append, List.length_cons, Array.length_toList] at h2
      omega
    have hcell : w.cell? ⟨B, o + i, none⟩ = some u := by
      rw [cell_of_cells hb, ← Array.getElem?_toList]
      have := list_mid hx (j := 0) (u := u) rfl
      rw [hc] at this
      simpa using this
    have hst : (store ((⟨B, o, none⟩ : Addr).add i) v).run P w = .ok () (w.setRow B (cur.setIfInBounds (o + i) v)) := by
      rw [addr_add, run_store P w _ v _ (by rw [← oneC_eq]; exact h1 v (by simp)), hcell]
      simp [free_frozen hb hf hsize, setCell_eq_setRow w B (o + i) cur E fz v hb]
    have hcur : (cur.setIfInBounds (o + i) v).toList = (c ++ [v]) ++ d ++ e := by
      rw [Array.toList_setIfInBounds, hx, ← hc, List.append_assoc, List.set_append_right _ _ (Nat.le_refl _), Nat.sub_self]
      simp
    have ih := storeCells_run (o := o) vs (i + 1) (w := w.setRow B (cur.setIfInBounds (o + i) v)) (setRow_heap w B cur _ E fz hb) (by simpa using hf) hcur (by simp only [List.length_append, List.length_singleton]; omega) (by simpa using hd) (fun x hx => h1 x (by simp [hx]))
    simp only [storeCells, Sem.run_bind, hst, Result.andThen_ok, ih, setRow_setRow]
    simp


theorem readPtr_info {t : TypeId} {v : V} {ls : List Leaf} (h : mkV P t ls = some v) : ∃ i, P.info? t = some i := by
  unfold mkV at h
  split at h
  · rename_i d hu; exact info_of_underlying hu
  · simp at h

/-- A row with cells put in: what the others see. -/
theorem splice_get {α : Type} {c d e vs : List α} {l : List α} (hx : l = c ++ d ++ e) (hd : d.length = vs.length) {j : Nat} (hj : j < c.length ∨ c.length + vs.length ≤ j) : (c ++ vs ++ e)[j]? = l[j]? := by
  rw [hx]
  rcases hj with hj | hj
  · rw [List.append_assoc, List.append_assoc, List.getElem?_append_left hj, List.getElem?_append_left hj]
  · rw [List.getElem?_append_right (by simp; omega), List.getElem?_append_right (by simp; omega)]
    simp [hd]

theorem splice_in {α : Type} {c e vs : List α} {j : Nat} {u : α} (hj : vs[j]? = some u) : (c ++ vs ++ e)[c.length + j]? = some u := list_mid rfl hj

/-- The cells of an array's content are settled. -/
def RowOk (ok : Ok) (μ : Mu) (id n : Nat) : Prop := ∀ B base sz, μ id = some (some (B, base, sz)) → ∀ o, base ≤ o → o < base + n → ok B o

theorem mem?_iff {n : Nat} {l : List Nat} : mem? n l = true ↔ n ∈ l := by
  induction l with
  | nil => simp [mem?]
  | cons a r ih =>
    rw [mem?, Bool.or_eq_true, nbeq, decide_eq_true_eq, ih, List.mem_cons]
    exact or_congr_left ⟨Eq.symm, Eq.symm⟩

theorem readOnly_ne : ∀ (ids : List Nat) {m : Mem} {i : Nat}, i ∉ ids → (readOnly ids m).get i = m.get i
  | [], _, _, _ => rfl
  | j :: r, m, i, h => by
    simp only [List.mem_cons, not_or] at h
    simp only [readOnly]
    split
    · rw [readOnly_ne r h.2, Mem.get_set_ne _ _ (fun e => h.1 e.symm)]
    · exact readOnly_ne r h.2

theorem ro_sound (hS : Sim ok μ m w) : ∀ (ids : List Nat), ∃ ok', Move ok μ m w ok' μ (readOnly ids m) w ∧
    ∀ id ∈ ids, ∀ τ xs ro, m.get id = some (.arr τ xs ro) → (readOnly ids m).get id = some (.arr τ xs true) ∧ RowOk ok' μ id (xs.length * τ.width) := by
  intro ids
  induction ids generalizing ok m with
  | nil => exact ⟨ok, Move.refl hS, by simp⟩
  | cons i r ih =>
    simp only [readOnly]
    split
    · rename_i τ xs ro hid
      have h1 := move_ro hS hid
      obtain ⟨ok', h2, h3⟩ := ih h1.sim
      refine ⟨ok', h1.trans h2, ?_⟩
      intro id hmem σ ys ro' he
      by_cases e : id = i
      · subst e
        rw [hid] at he
        cases he
        have hrow : RowOk ok' μ id (xs.length * τ.width) := fun B base sz hm o h4 h5 => h2.step.grow.sub _ _ (.inr ⟨base, sz, hm, h4, h5⟩)
        by_cases hr : id ∈ r
        · exact ⟨(h3 id hr τ xs true (Mem.get_set_self _ _ _)).1, hrow⟩
        · rw [readOnly_ne r hr, Mem.get_set_self]; exact ⟨rfl, hrow⟩
      · have hr : id ∈ r := by simpa [e] using hmem
        exact h3 id hr σ ys ro' (by rw [Mem.get_set_ne _ _ (fun x => e x.symm)]; exact he)
    · rename_i hno
      obtain ⟨ok', h2, h3⟩ := ih hS
      refine ⟨ok', h2, ?_⟩
      intro id hmem σ ys ro' he
      by_cases hr : id ∈ r
      · exact h3 id hr σ ys ro' he
      · have e : id = i := by simpa [hr] using hmem
        subst e
        exact absurd he (by rintro h; exact hno _ _ _ h)

/-! ### freezing -/
theorem sees_le {α : Type} (v : View) (xs : List α) : (v.sees xs).length ≤ xs.length := by
  cases v with
  | tail o => cases o <;> simp [View.sees]
  | sub o n => simp only [View.sees, List.length_take, List.length_drop]; omega

/-- A slice of an array with a settled content is plain data. -/
theorem frz_ref {ok0 : Ok} {μ0 : Mu} {m0 : Mem} {id : Nat} {v : View} {lim : Option Nat} {u : Value} {τ : Ty} {xs : List τ.El} {ro : Bool} (hS : Sim ok μ m w) (h : RepL ok μ m w (.ref id v lim) [u])
    (hid : m.get id = some (.arr τ xs ro)) (hrow : RowOk ok μ id (xs.length * τ.width)) : RepL ok μ0 m0 w (.sl τ (v.sees xs) none lim) [u] := by
  obtain ⟨u', e, _, h⟩ := h
  simp only [List.cons.injEq, and_true] at e
  subst e
  simp only [hid, Option.bind_some, Obj.row] at h
  obtain ⟨a, cap, rfl, h1, h2, h3, _, h4⟩ := h
  have hlen := View.lenN_sees v xs h1
  have hbig : xs.length ≤ big := (hS.objs id _ hid).1.2
  refine ⟨⟨a, cap, by rw [hlen], ⟨by omega, Nat.le_trans (sees_le v xs) hbig⟩, ?_, ?_⟩, a, _, cap, rfl, by simp, by simp, h3⟩
  · rintro rfl
    rcases h4 with ⟨B, base, sz, _, ha, _⟩ | ⟨_, h4⟩
    · cases ha
    · exact h4
  · intro ad had
    subst had
    rcases h4 with ⟨B, base, sz, hm, ha, _⟩ | ⟨h4, _⟩
    · cases ha
      refine ⟨.inr rfl, fun i hi => ?_⟩
      obtain ⟨_, hO⟩ := hS.objs id _ hid
      rcases hO with ⟨e, _⟩ | ⟨B', base', sz', c, E, fz, e1, e2, e3, e4, e5, e6, e7, e8⟩
      · rw [e] at hm; simp at hm
      · rw [e1] at hm
        simp only [Option.some.injEq, Prod.mk.injEq] at hm
        obtain ⟨rfl, rfl, rfl⟩ := hm
        have hi' : v.off + i < xs.length := by omega
        obtain ⟨c', hc, hat⟩ := e6 (v.off + i) hi'
        rw [View.sees_get v xs i hi hi']
        refine ⟨c', hc, fun j u hj => ?_⟩
        have hjl : j < τ.width := by
          rw [← RepT.length hc]
          rcases Nat.lt_or_ge j c'.length with h | h
          · exact h
          · rw [List.getElem?_eq_none h] at hj; cases hj
        have hmul : (v.off + i) * τ.width + τ.width ≤ xs.length * τ.width := by
          rw [← Nat.succ_mul]; exact Nat.mul_le_mul_right _ hi'
        rw [show base' + v.off * τ.width + i * τ.width + j = base' + (v.off + i) * τ.width + j from by rw [Nat.add_mul]; omega]
        refine ⟨hrow B' base' sz' e1 _ (by omega) (by omega), ?_⟩
        simp only [cellAt]
        rw [cell_of_cells e2]
        exact hat j u hj
    · have : v.sees xs = [] := List.length_eq_zero_iff.mp (by omega)
      refine ⟨.inl this, fun i hi => ?_⟩
      rw [this] at hi
      simp at hi

/-- Leaves that have nothing to do with the memory. -/
def Leaf.still : Leaf → Bool
  | .ref .. | .ptr .. | .map _ => false
  | .fn _ a b => a.isEmpty && b.isEmpty
  | _ => true

theorem RepL.still {μ0 : Mu} {m0 : Mem} {l : Leaf} {cs : List Value} (hs : l.still = true) (h : RepL ok μ m w l cs) : RepL ok μ0 m0 w l cs := by
  cases l with
  | ref _ _ _ => simp [Leaf.still] at hs
  | ptr _ _ _ => simp [Leaf.still] at hs
  | map _ => simp [Leaf.still] at hs
  | fn f a b =>
    simp only [Leaf.still, Bool.and_eq_true, List.isEmpty_iff] at hs
    obtain ⟨rfl, rfl⟩ := hs
    obtain ⟨x, y, e, h1, h2⟩ := h
    exact ⟨x, y, e, h1, h2⟩
  | _ => exact h

theorem frzLeaf_sound {μ0 : Mu} {m0 : Mem} {l l' : Leaf} {cs : List Value} (hS : Sim ok μ m w) (h : frzLeaf m l = some l') (hl : RepL ok μ m w l cs)
    (hrow : ∀ id ∈ l.ids, ∀ τ xs ro, m.get id = some (.arr τ xs ro) → RowOk ok μ id (xs.length * τ.width)) : RepL ok μ0 m0 w l' cs ∧ l'.still = true := by
  cases l with
  | ref id v lim =>
    simp only [frzLeaf] at h
    split at h
    · rename_i τ xs ro hid
      simp only [Option.some.injEq] at h
      subst h
      have hl' := hl
      obtain ⟨u, rfl, hh⟩ := hl'
      exact ⟨frz_ref (ok0 := ok) hS ⟨u, rfl, hh⟩ hid (hrow id (by simp [Leaf.ids]) τ xs ro hid), rfl⟩
    · simp at h
  | fn f a b =>
    simp only [frzLeaf] at h
    split at h
    · simp only [Option.some.injEq] at h; subst h
      exact ⟨RepL.still rfl hl, rfl⟩
    · simp at h
  | ptr _ _ _ => simp [frzLeaf] at h
  | map _ => simp [frzLeaf] at h
  | cptr _ _ _ => simp [frzLeaf] at h
  | _ => simp only [frzLeaf, Option.some.injEq] at h; subst h; exact ⟨RepL.still rfl hl, rfl⟩

theorem frzLeaves_sound {μ0 : Mu} {m0 : Mem} (hS : Sim ok μ m w) : ∀ {ls ls' : List Leaf} {cs : List Value}, frzLeaves m ls = some ls' → RepLs ok μ m w ls cs →
    (∀ id ∈ leavesIds ls, ∀ τ xs ro, m.get id = some (.arr τ xs ro) → RowOk ok μ id (xs.length * τ.width)) → RepLs ok μ0 m0 w ls' cs
  | [], ls', cs, h, hr, _ => by simp only [frzLeaves, Option.some.injEq] at h; subst h; exact hr
  | l :: ls, ls', cs, h, ⟨c, d, e, h1, h2⟩, hrow => by
    simp only [frzLeaves] at h
    split at h
    · rename_i x xs e1 e2
      simp only [Option.some.injEq] at h
      subst h
      simp only [leavesIds, List.mem_append] at hrow
      exact ⟨c, d, e, (frzLeaf_sound hS e1 h1 (fun id hi => hrow id (.inl hi))).1, frzLeaves_sound hS e2 h2 (fun id hi => hrow id (.inr hi))⟩
    · simp at h

theorem frzSome_sound {m1 : Mem} {l : Leaf} {cs : List Value} (hS : Sim ok μ m1 w) (hl : RepL ok μ m1 w l cs) (hm : ∀ id ∈ l.ids, ∀ τ xs ro, m.get id = some (.arr τ xs ro) → ∃ ro', m1.get id = some (.arr τ xs ro') ∧ RowOk ok μ id (xs.length * τ.width)) :
    RepL ok μ m1 w (frzSome m l) cs := by
  unfold frzSome
  split
  · rename_i id v lim
    simp only [frzLeaf]
    split
    · rename_i τ xs ro hid
      obtain ⟨ro', h1, h2⟩ := hm id (by simp [Leaf.ids]) τ xs ro hid
      have hl' := hl
      obtain ⟨u, rfl, hh⟩ := hl'
      exact frz_ref (ok0 := ok) hS ⟨u, rfl, hh⟩ h1 h2
    · exact hl
  · exact hl


/-! ### writing through a pointer -/
theorem RepAll.nthSet {α : Type} {f : α → List Value → Prop} {wd : Nat} (hf : ∀ x c, f x c → c.length = wd) : ∀ {xs : List α} {cs : List Value} (h : RepAll f xs cs) (i : Nat) (hi : i < xs.length),
    ∃ c d e, cs = c ++ d ++ e ∧ c.length = i * wd ∧ f xs[i] d ∧ ∀ y d', f y d' → RepAll f (xs.set i y) (c ++ d' ++ e)
  | x :: xs, cs, ⟨c, d, e, h1, h2⟩, 0, _ => ⟨[], c, d, by simpa using e, by simp, h1, fun y d' hy => ⟨d', d, by simp, hy, h2⟩⟩
  | x :: xs, cs, ⟨c, d, e, h1, h2⟩, i + 1, hi => by
    obtain ⟨c', d', e', he, hl, hfi, hset⟩ := h2.nthSet hf i (by simpa using hi)
    refine ⟨c ++ c', d', e', by simp [e, he], by simp [hf _ _ h1, hl, Nat.succ_mul]; omega, by simpa using hfi, ?_⟩
    intro y d'' hy
    exact ⟨c, c' ++ d'' ++ e', by simp, h1, hset y d'' hy⟩

theorem cellAt_setRow_ne {B b p : Nat} {cs : Array Value} (h : b ≠ B) : cellAt (w.setRow B cs) b p = cellAt w b p := cellAt_of_heap (setRow_other w B b cs h)

theorem putEl_some {τ : Ty} {x : τ.El} {sub : Nat} {new : List Leaf} {k : τ.El → R} {r : AV × Mem} (h : putEl τ x sub new k = some r) :
    ∃ ls y, putW (τ.leaves x) sub new = some ls ∧ τ.read ls = some y ∧ k y = some r := by
  unfold putEl at h
  simp only [opt_some] at h
  obtain ⟨ls, h1, y, h2, h3⟩ := h
  exact ⟨ls, y, h1, h2, h3⟩

/-- An element with leaves put in. -/
theorem putEl_sound {τ : Ty} {x y : τ.El} {sub : Nat} {new ls : List Leaf} {cx cn : List Value} (hx : RepT ok w τ x cx) (hn : RepLs ok μ m w new cn) (hp : putW (τ.leaves x) sub new = some ls)
    (hy : τ.read ls = some y) : ∃ c d e, cx = c ++ d ++ e ∧ c.length = sub ∧ d.length = cn.length ∧ RepT ok w τ y (c ++ cn ++ e) := by
  obtain ⟨c, d, e, h1, h2, h3, h4⟩ := putW_sound hp (leaves_of_repT (m := m) (μ := μ) hx) hn
  exact ⟨c, d, e, h1, h2, h3, read_sound hy h4⟩

theorem writePtr_sound {p : Leaf} {v : Value} {new : List Leaf} {cn : List Value} {k : Mem → R} {r : AV × Mem} (hS : Sim ok μ m w) (hp : RepL ok μ m w p [v]) (hn : RepLs ok μ m w new cn)
    (h : writePtr m p new k = some r) :
    ∃ B o ok' m' w', v = .pointer (some ⟨B, o, none⟩) ∧ (storeCells ⟨B, o, none⟩ cn 0).run P w = .ok () w' ∧ Move ok μ m w ok' μ m' w' ∧ k m' = some r := by
  have h1 := RepLs.one hn
  unfold writePtr at h
  split at h
  · rename_i id off ix
    obtain ⟨B, base, sz, hm, hv⟩ := hp
    simp only [List.cons.injEq, and_true] at hv
    split at h
    · rename_i ls hid
      obtain ⟨B', sz', c, E, fz, e1, e2, e3, e4, e5, e6⟩ := hS.objs id _ hid
      rw [e1] at hm
      simp only [Option.some.injEq, Prod.mk.injEq] at hm
      obtain ⟨rfl, rfl, rfl⟩ := hm
      have hlive : Live m id := ⟨_, hid, rfl⟩
      have fin : ∀ {ls' : List Leaf} {X Y Z : List Value} {o : Nat}, c.toList = X ++ Y ++ Z → X.length = o → Y.length = cn.length →
          RepLs ok μ m w ls' (X ++ cn ++ Z) → (storeCells ⟨B', o, none⟩ cn 0).run P w = .ok () (w.setRow B' (X ++ cn ++ Z).toArray) ∧
            Move ok μ m w ok μ (m.set id (.box false ls')) (w.setRow B' (X ++ cn ++ Z).toArray) := by
        intro ls' X Y Z o hX hXl hYl hr
        refine ⟨storeCells_run cn 0 e2 (by rw [e3]; exact e4) hX (by omega) hYl h1, ?_⟩
        have hg : ∀ b p, ok b p → cellAt (w.setRow B' (X ++ cn ++ Z).toArray) b p = cellAt w b p := by
          intro b p hb
          exact cellAt_setRow_ne (fun e => e6 p (e ▸ hb))
        have hst := step_set (w' := w.setRow B' (X ++ cn ++ Z).toArray) (μ := μ) hid (o' := .box false ls') (.inr trivial) hg
        refine move_write hS hlive ⟨0, sz', e1⟩ hid (.inr trivial) (by simp) (fun b hb => setRow_other w B' b _ hb) (fun p hb => hg B' p hb) ?_
        refine ⟨B', sz', _, E, fz, e1, setRow_heap w B' c _ E fz e2, ?_, e4, ?_, e6⟩
        · have := congrArg List.length hX
          simp only [List.length_append, Array.length_toList] at this
          simp only [List.size_toArray, List.length_append]
          omega
        · simpa using hr.step' hS hst
      split at h
      · simp only [opt_some] at h
        obtain ⟨ls', hput, hk⟩ := h
        obtain ⟨X, Y, Z, hX, hXl, hYl, hr⟩ := putW_sound hput e5 hn
        obtain ⟨hrun, hmv⟩ := fin hX hXl hYl hr
        exact ⟨B', off, ok, _, _, by simpa [ixOff] using hv, hrun, hmv, hk⟩
      · rename_i i wd sub
        split at h
        · rename_i a n τ xs b ha hb
          simp only [gd_some, Bool.and_eq_true, nbeq, decide_eq_true_eq] at h
          obtain ⟨⟨hw, hi⟩, h⟩ := h
          subst hw
          obtain ⟨ls2, y, hp2, hy, hk⟩ := putEl_some h
          obtain ⟨A, A', hA, hAl, hAr⟩ := takeW_sound ha e5
          obtain ⟨A2, D, hD, hDl, hDr⟩ := dropW_sound hb e5
          have hAA : A2 = A ∧ D = A' := by
            have := hA.symm.trans hD
            have := List.append_inj this (by omega)
            exact ⟨this.1.symm, this.2.symm⟩
          obtain ⟨rfl, rfl⟩ := hAA
          obtain ⟨b1, b2, rfl, hb1, hb2⟩ := hDr
          obtain ⟨hxl, hall⟩ := hb1
          have hi' : i < xs.length := by omega
          obtain ⟨p1, p2, p3, hp, hlp, hx, hset⟩ := hall.nthSet (fun _ _ h => RepT.length h) i hi'
          rw [getD_get _ _ _ hi'] at hp2
          obtain ⟨q1, q2, q3, hq, hql, hqn, hyT⟩ := putEl_sound hx hn hp2 hy
          have hX : c.toList = (A2 ++ p1 ++ q1) ++ q2 ++ (q3 ++ p3 ++ b2) := by rw [hA, hp, hq]; simp
          have hrep : RepLs ok μ m w (a ++ .ar n τ (xs.set i y) :: b) ((A2 ++ p1 ++ q1) ++ cn ++ (q3 ++ p3 ++ b2)) := by
            have h2 : RepL ok μ m w (.ar n τ (xs.set i y)) (p1 ++ (q1 ++ cn ++ q3) ++ p3) := ⟨by simpa using hxl, hset y _ hyT⟩
            have h3 : RepLs ok μ m w (.ar n τ (xs.set i y) :: b) (p1 ++ (q1 ++ cn ++ q3) ++ p3 ++ b2) := ⟨_, _, rfl, h2, hb2⟩
            have := hAr.append h3
            rw [show A2 ++ p1 ++ q1 ++ cn ++ (q3 ++ p3 ++ b2) = A2 ++ (p1 ++ (q1 ++ cn ++ q3) ++ p3 ++ b2) from by simp]
            exact this
          obtain ⟨hrun, hmv⟩ := fin (o := off + (i * τ.width + sub)) hX (by simp [hAl, hlp, hql]) hqn hrep
          exact ⟨B', off + (i * τ.width + sub), ok, _, _, by simpa [ixOff] using hv, hrun, hmv, hk⟩
        · simp at h
    · rename_i τ xs ro hid
      split at h
      · rename_i i wd sub
        simp only [gd_some, Bool.and_eq_true, nbeq, decide_eq_true_eq, Bool.not_eq_true'] at h
        obtain ⟨⟨⟨hw, hi⟩, hnid⟩, h⟩ := h
        subst hw
        obtain ⟨ls2, y, hp2, hy, hk⟩ := putEl_some h
        -- the slices among the new leaves are settled first
        obtain ⟨ok1, hm1, hro⟩ := ro_sound hS (leavesIds new)
        have hnotin : id ∉ leavesIds new := fun hin => by rw [mem?_iff.mpr hin] at hnid; cases hnid
        have hid1 : (readOnly (leavesIds new) m).get id = some (.arr τ xs false) := by rw [readOnly_ne _ hnotin]; exact hid
        have hS1 := hm1.sim
        have hn1 : RepLs ok1 μ (readOnly (leavesIds new) m) w (new.map (frzSome m)) cn := by
          have base : RepLs ok1 μ (readOnly (leavesIds new) m) w new cn := hn.step' hS hm1.step
          have : ∀ {l : List Leaf} {cs : List Value}, (∀ x ∈ l, ∀ id ∈ x.ids, id ∈ leavesIds new) → RepLs ok1 μ (readOnly (leavesIds new) m) w l cs → RepLs ok1 μ (readOnly (leavesIds new) m) w (l.map (frzSome m)) cs := by
            intro l
            induction l with
            | nil => intro cs _ h; exact h
            | cons x l ih =>
              rintro cs hin ⟨c, d, e, h1, h2⟩
              refine ⟨c, d, e, frzSome_sound hS1 h1 (fun id hid' τ xs ro he => ?_), ih (fun z hz => hin z (by simp [hz])) h2⟩
              obtain ⟨r1, r2⟩ := hro id (hin x (by simp) id hid') τ xs ro he
              exact ⟨true, r1, r2⟩
          refine this ?_ base
          have : ∀ (l : List Leaf) x, x ∈ l → ∀ id ∈ x.ids, id ∈ leavesIds l := by
            intro l
            induction l with
            | nil => simp
            | cons z l ih =>
              intro x hx id hid
              simp only [leavesIds, List.mem_append]
              rcases List.mem_cons.mp hx with rfl | hx
              · exact .inl hid
              · exact .inr (ih x hx id hid)
          exact this new
        obtain ⟨hwpos, hO⟩ := hS1.objs id _ hid1
        rcases hO with ⟨e1, _⟩ | ⟨B', base', sz', c, E, fz, e1, e2, e3, e4, e5, e6, e7, e8⟩
        · rw [e1] at hm; simp at hm
        · rw [e1] at hm
          simp only [Option.some.injEq, Prod.mk.injEq] at hm
          obtain ⟨rfl, rfl, rfl⟩ := hm
          have hlive : Live (readOnly (leavesIds new) m) id := ⟨_, hid1, rfl⟩
          obtain ⟨cx, hcx, hat⟩ := e6 i hi
          rw [getD_get _ _ _ hi] at hp2
          obtain ⟨q1, q2, q3, hq, hql, hqn, hyT⟩ := putEl_sound hcx hn1 hp2 hy
          have hcxl := RepT.length hcx
          have hcxl' : q1.length + q2.length + q3.length = τ.width := by rw [← hcxl, hq]; simp; omega
          have hmul : i * τ.width + τ.width ≤ xs.length * τ.width := by rw [← Nat.succ_mul]; exact Nat.mul_le_mul_right _ hi
          -- the row, cut at the cells that are written
          have hlen : base' + i * τ.width + sub + cn.length ≤ c.size := by omega
          have hX : c.toList = c.toList.take (base' + i * τ.width + sub) ++ (c.toList.drop (base' + i * τ.width + sub)).take cn.length ++ c.toList.drop (base' + i * τ.width + sub + cn.length) := by
            rw [List.append_assoc, show c.toList.drop (base' + i * τ.width + sub + cn.length) = (c.toList.drop (base' + i * τ.width + sub)).drop cn.length from by rw [List.drop_drop], List.take_append_drop, List.take_append_drop]
          generalize hXd : c.toList.take (base' + i * τ.width + sub) = X at hX
          generalize hYd : (c.toList.drop (base' + i * τ.width + sub)).take cn.length = Y at hX
          generalize hZd : c.toList.drop (base' + i * τ.width + sub + cn.length) = Z at hX
          have hXl : X.length = base' + i * τ.width + sub := by rw [← hXd]; simp; omega
          have hYl : Y.length = cn.length := by rw [← hYd]; simp; omega
          have hnok : ∀ p, ¬ ok1 B' p := fun p hp => by have := (e7 p hp).1; cases this
          have hg : ∀ b p, ok1 b p → cellAt (w.setRow B' (X ++ cn ++ Z).toArray) b p = cellAt w b p := fun b p hb => cellAt_setRow_ne (fun e => hnok p (e ▸ hb))
          have hst := step_set (w' := w.setRow B' (X ++ cn ++ Z).toArray) (μ := μ) hid1 (o' := .arr τ (xs.set i y) false) (.inr ⟨rfl, by simp⟩) hg
          have hmv : Move ok1 μ (readOnly (leavesIds new) m) w ok1 μ ((readOnly (leavesIds new) m).set id (.arr τ (xs.set i y) false)) (w.setRow B' (X ++ cn ++ Z).toArray) := by
            refine move_write hS1 hlive ⟨base', sz', e1⟩ hid1 (.inr ⟨rfl, by simp⟩) (by simp) (fun b hb => setRow_other w B' b _ hb) (fun p hb => hg B' p hb) ?_
            refine ⟨⟨hwpos.1, by simpa using hwpos.2⟩, .inr ⟨B', base', sz', _, E, fz, e1, setRow_heap w B' c _ E fz e2, ?_, e4, by simpa using e5, ?_, fun p hp => absurd hp (hnok p), ?_⟩⟩
            · have := congrArg List.length hX
              simp only [List.length_append, Array.length_toList] at this
              simp only [List.size_toArray, List.length_append]
              omega
            · intro j hj
              simp only [List.length_set] at hj
              by_cases hji : j = i
              · subst hji
                refine ⟨q1 ++ cn ++ q3, by simpa using RepT.mono hst.grow hyT, ?_⟩
                intro jj u hu
                simp only [List.getElem?_toArray]
                rcases Nat.lt_or_ge jj q1.length with h | h
                · rw [splice_get hX hYl (.inl (by omega)), Array.getElem?_toList]
                  refine hat jj u ?_
                  rw [hq, List.append_assoc, List.getElem?_append_left h]
                  rw [List.append_assoc, List.getElem?_append_left h] at hu
                  exact hu
                · rcases Nat.lt_or_ge jj (q1.length + cn.length) with h' | h'
                  · have hu' : cn[jj - q1.length]? = some u := by
                      rw [List.append_assoc, List.getElem?_append_right h, List.getElem?_append_left (by omega)] at hu
                      exact hu
                    have := splice_in (c := X) (e := Z) hu'
                    rw [← this]
                    congr 1
                    omega
                  · rw [splice_get hX hYl (.inr (by omega)), Array.getElem?_toList]
                    refine hat jj u ?_
                    rw [hq, List.getElem?_append_right (by simp; omega)]
                    rw [List.getElem?_append_right (by simp; omega)] at hu
                    simpa [hqn] using hu
              · obtain ⟨cj, hcj, hatj⟩ := e6 j hj
                refine ⟨cj, ?_, ?_⟩
                · rw [List.getElem_set_ne (fun e => hji e.symm)]; exact RepT.mono hst.grow hcj
                · intro jj u hu
                  have hjj : jj < τ.width := by
                    rw [← RepT.length hcj]
                    rcases Nat.lt_or_ge jj cj.length with h | h
                    · exact h
                    · rw [List.getElem?_eq_none h] at hu; cases hu
                  simp only [List.getElem?_toArray]
                  have hdis : base' + j * τ.width + jj < base' + i * τ.width + sub ∨ base' + i * τ.width + sub + cn.length ≤ base' + j * τ.width + jj := by
                    rcases Nat.lt_or_ge j i with h | h
                    · have : j * τ.width + τ.width ≤ i * τ.width := by rw [← Nat.succ_mul]; exact Nat.mul_le_mul_right _ h
                      exact .inl (by omega)
                    · have : i * τ.width + τ.width ≤ j * τ.width := by rw [← Nat.succ_mul]; exact Nat.mul_le_mul_right _ (by omega)
                      exact .inr (by omega)
                  rw [splice_get hX hYl (by omega), Array.getElem?_toList]
                  exact hatj jj u hu
            · have hsz : (X ++ cn ++ Z).toArray.size = c.size := by
                have := congrArg List.length hX
                simp only [List.length_append, Array.length_toList] at this
                simp only [List.size_toArray, List.length_append]
                omega
              rw [List.length_set]
              refine (e8.mono hst.grow).same hsz fun p hp => ?_
              simp only [List.getElem?_toArray]
              rw [splice_get hX hYl (.inr (by omega)), Array.getElem?_toList]
          refine ⟨B', base' + i * τ.width + sub, ok1, _, _, by rw [hv]; simp [ixOff, Nat.add_assoc], storeCells_run cn 0 e2 (by rw [e3]; exact e4.free) hX (by omega) hYl h1, hm1.trans hmv, hk⟩
      · simp at h
    · simp at h
  · simp at h

theorem store_runs {t : TypeId} {x y : AV} {u v : Value} {k : AV → Mem → R} {r : AV × Mem} (hS : Sim ok μ m w) (hx : RepAV ok μ m w x u) (hy : RepAV ok μ m w y v)
    (h : (oneK x fun p => opt (leavesAs P t y) fun ls => writePtr m p ls fun m' => k .skip m') = some r) (hi : ∃ i, P.info? t = some i) :
    Runs P (do Instr.storeAt t u v; pure .skip) w (Post ok μ m w k r) := by
  obtain ⟨p, rfl, h⟩ := oneK_some h
  obtain ⟨ls, hls, h⟩ := opt_some.mp h
  obtain ⟨hrep, hsz⟩ := leavesAs_sound hls hy
  obtain ⟨B, o, ok', m', w', rfl, hrun, hmv, hk⟩ := writePtr_sound (P := P) hS hx hrep h
  obtain ⟨i, hi⟩ := hi
  refine Runs.unit (w' := w') ?_ ⟨.skip, ok', μ, m', hk, hmv, rfl⟩
  simp only [Instr.storeAt, Instr.sureAddr, Sem.run_bind, Sem.run_pure, Result.andThen_ok, storeVar, run_sizeOf w hi, hsz, ne_eq, not_true_eq_false, if_false]
  exact hrun

end
end Go.Ev

/- The abstract evaluator is sound: composite literals, new slices. Own work. -/
set_option linter.unusedSimpArgs false
set_option linter.unusedVariables false
namespace Go.Ev
open Go

section
variable {P : Program} {ok : Ok} {μ : Mu} {m : Mem} {w : World}

theorem Post.move {ok' : Ok} {μ' : Mu} {m' : Mem} {w' w'' : World} {k : AV → Mem → R} {r : AV × Mem} {v : Value} (h : Move ok μ m w ok' μ' m' w') (hp : Post ok' μ' m' w' k r v w'') : Post ok μ m w k r v w'' := by
  obtain ⟨av, ok2, μ2, m2, h1, h2, h3⟩ := hp
  exact ⟨av, ok2, μ2, m2, h1, h.trans h2, h3⟩

theorem mem_leavesIds : ∀ {l : List Leaf} {x : Leaf} {id : Nat}, x ∈ l → id ∈ x.ids → id ∈ leavesIds l
  | z :: l, x, id, hx, hid => by
    simp only [leavesIds, List.mem_append]
    rcases List.mem_cons.mp hx with rfl | hx
    · exact .inl hid
    · exact .inr (mem_leavesIds hx hid)

/-- Slices whose arrays are settled are plain data. -/
theorem settled {ids : List Nat} {ok1 : Ok} (hS : Sim ok μ m w) (hm1 : Move ok μ m w ok1 μ (readOnly ids m) w)
    (hro : ∀ id ∈ ids, ∀ τ xs ro, m.get id = some (.arr τ xs ro) → (readOnly ids m).get id = some (.arr τ xs true) ∧ RowOk ok1 μ id (xs.length * τ.width)) :
    ∀ {new : List Leaf} {cn : List Value}, (∀ id ∈ leavesIds new, id ∈ ids) → RepLs ok μ m w new cn → RepLs ok1 μ (readOnly ids m) w (new.map (frzSome m)) cn
  | [], _, _, h => h
  | l :: new, _, hin, ⟨c, d, e, h1, h2⟩ => by
    simp only [leavesIds, List.mem_append] at hin
    refine ⟨c, d, e, frzSome_sound hm1.sim (h1.step' hS hm1.step) (fun id hid τ xs ro he => ?_), settled hS hm1 hro (fun id h => hin id (.inr h)) h2⟩
    obtain ⟨r1, r2⟩ := hro id (hin id (.inl hid)) τ xs ro he
    exact ⟨true, r1, r2⟩

theorem typed_ids (t : TypeId) (v : AV) : (typed P t v).ids = v.ids := by
  unfold typed
  split
  · simp only [AV.ids, V.leaves]
    unfold nilSl
    split <;> rfl
  · rfl

theorem leavesAs_ids {t : TypeId} {v : AV} {ls : List Leaf} (h : leavesAs P t v = some ls) : leavesIds ls = v.ids := by
  unfold leavesAs at h
  split at h
  · rename_i y e
    rw [← typed_ids (P := P) t v, e]
    cases hb : Nat.beq (widths y.leaves) (sizeTy P t) with
    | false => simp [hb] at h
    | true => simp only [hb, cond_true, Option.some.injEq] at h; subst h; rfl
  · simp at h

/-! ### filling -/
theorem foldl_put : ∀ (vs : List Value) (k : Nat) {off : Nat} {cells : Array Value} {c d e : List Value}, cells.toList = c ++ d ++ e → c.length = off + k → d.length = vs.length →
    ((vs.zipIdx k).foldl (fun cs (x : Value × Nat) => cs.setIfInBounds (off + x.2) x.1) cells).toList = c ++ vs ++ e
  | [], k, off, cells, c, d, e, hx, hc, hd => by
    have : d = [] := List.length_eq_zero_iff.mp hd
    subst this
    simpa using hx
  | v :: vs, k, off, cells, c, [], e, hx, hc, hd => by simp at hd
  | v :: vs, k, off, cells, c, u :: d, e, hx, hc, hd => by
    simp only [List.zipIdx_cons, List.foldl_cons]
    have hcur : (cells.setIfInBounds (off + k) v).toList = (c ++ [v]) ++ d ++ e := by
      rw [Array.toList_setIfInBounds, hx, ← hc, List.append_assoc, List.set_append_right _ _ (Nat.le_refl _), Nat.sub_self]
      simp
    rw [foldl_put vs (k + 1) hcur (by simp; omega) (by simpa using hd)]
    simp

theorem fill_step {place : Nat → Option (Nat × Nat)} {cells : Array Value} {i off size : Nat} {v : Value} {rest : List (Nat × Value)} {c d e : List Value} (hp : place i = some (off, size))
    (hv : v.cells.size = size) (hx : cells.toList = c ++ d ++ e) (hc : c.length = off) (hd : d.length = v.cells.size) :
    Instr.fill place cells ((i, v) :: rest) = Instr.fill place (c ++ v.cells.toList ++ e).toArray rest := by
  have hsz : off + v.cells.size ≤ cells.size := by
    have := congrArg List.length hx
    simp only [List.length_append, Array.length_toList] at this
    omega
  simp only [Instr.fill, hp]
  rw [if_neg (by simp [hv]; omega)]
  congr 1
  apply Array.ext'
  have := foldl_put v.cells.toList 0 (off := off) hx hc (by rw [hd]; rfl)
  generalize v.cells = vc at this ⊢
  obtain ⟨l⟩ := vc
  simpa using this

def RepParts (ok : Ok) (μ : Mu) (m : Mem) (w : World) : List (Nat × AV) → List (Nat × Value) → Prop
  | [], vs => vs = []
  | (i, x) :: r, vs => ∃ v s, vs = (i, v) :: s ∧ RepAV ok μ m w x v ∧ RepParts ok μ m w r s

theorem parts_sound {st : St} {a : Act} (h : RepAVs ok μ m w st.tmps a.tmps.toList) : ∀ (ps : List (Nat × Operand)),
    RepParts ok μ m w (ps.map fun (i, x) => (i, ev st x)) (ps.map fun (i, x) => (i, a.eval x))
  | [] => rfl
  | (i, x) :: ps => ⟨_, _, rfl, ev_sound h x, parts_sound h ps⟩

theorem buildStruct_sound {fs : Array Field} {place : Nat → Option (Nat × Nat)} (hpl : ∀ i (f : Go.Field), fs[i]? = some f → place i = some (f.offset, sizeTy P f.type)) :
    ∀ {parts : List (Nat × AV)} {vs : List (Nat × Value)} {ls ls' : List Leaf} {cells : Array Value}, RepParts ok μ m w parts vs → buildStruct P fs parts ls = some ls' → RepLs ok μ m w ls cells.toList →
      ∃ cells', Instr.fill place cells vs = some cells' ∧ RepLs ok μ m w ls' cells'.toList
  | [], vs, ls, ls', cells, hp, h, hr => by
    simp only [RepParts] at hp
    subst hp
    simp only [buildStruct, Option.some.injEq] at h
    subst h
    exact ⟨cells, rfl, hr⟩
  | (i, x) :: parts, vs, ls, ls', cells, ⟨v, s, e, hx, hp⟩, h, hr => by
    subst e
    simp only [buildStruct] at h
    split at h
    · rename_i f hf
      split at h
      · rename_i new hnew
        split at h
        · rename_i ls1 h1
          obtain ⟨hn, hsz⟩ := leavesAs_sound hnew hx
          obtain ⟨c, d, e, hc1, hc2, hc3, hr1⟩ := putW_sound h1 hr hn
          rw [fill_step (hpl i f hf) hsz hc1 hc2 (by simpa using hc3)]
          exact buildStruct_sound hpl hp h (by simpa using hr1)
        · simp at h
      · simp at h
    · simp at h

theorem buildElems_sound {ids : List Nat} {ok1 : Ok} (hS : Sim ok μ m w) (hm1 : Move ok μ m w ok1 μ (readOnly ids m) w)
    (hro : ∀ id ∈ ids, ∀ τ xs ro, m.get id = some (.arr τ xs ro) → (readOnly ids m).get id = some (.arr τ xs true) ∧ RowOk ok1 μ id (xs.length * τ.width))
    {e : TypeId} {τ : Ty} (hw : τ.width = sizeTy P e) :
    ∀ {parts : List (Nat × AV)} {vs : List (Nat × Value)} {xs xs' : List τ.El} {cells : Array Value}, (∀ id ∈ partIds parts, id ∈ ids) → RepParts ok μ m w parts vs → buildElems P m e τ parts xs = some xs' →
      RepAll (RepT ok1 w τ) xs cells.toList →
      ∃ cells', Instr.fill (fun i => some (i * sizeTy P e, sizeTy P e)) cells vs = some cells' ∧ RepAll (RepT ok1 w τ) xs' cells'.toList ∧ xs'.length = xs.length
  | [], vs, xs, xs', cells, _, hp, h, hr => by
    simp only [RepParts] at hp
    subst hp
    simp only [buildElems, Option.some.injEq] at h
    subst h
    exact ⟨cells, rfl, hr, rfl⟩
  | (i, x) :: parts, vs, xs, xs', cells, hin, ⟨v, s, e', hx, hp⟩, h, hr => by
    subst e'
    simp only [partIds, List.mem_append] at hin
    simp only [buildElems] at h
    split at h
    · rename_i new hnew
      split at h
      · rename_i y hy
        cases hb : Nat.blt i xs.length with
        | false => simp [hb] at h
        | true =>
          simp only [hb, cond_true] at h
          have hi : i < xs.length := Nat.le_of_ble_eq_true hb
          obtain ⟨hn, hsz⟩ := leavesAs_sound hnew hx
          have hids : ∀ id ∈ leavesIds new, id ∈ ids := fun id hid => hin id (.inl (leavesAs_ids hnew ▸ hid))
          have hn1 := settled hS hm1 hro hids hn
          have hyT := read_sound hy hn1
          obtain ⟨c, d, e2, hcs, hcl, hd, hset⟩ := hr.nthSet (wd := τ.width) (fun _ _ h => RepT.length h) i hi
          rw [fill_step rfl hsz hcs (by rw [hcl, hw]) (by rw [RepT.length hd, hw, hsz])]
          have hr2 := hset y _ hyT
          obtain ⟨cells', f1, f2, f3⟩ := buildElems_sound hS hm1 hro hw (fun id h => hin id (.inr h)) hp h (cells := (c ++ v.cells.toList ++ e2).toArray) (by simpa using hr2)
          exact ⟨cells', f1, f2, by simpa using f3⟩
      · simp at h
    · simp at h

/-! ### structs and arrays -/
theorem zeroN_underlying {n : Nat} {t : TypeId} {z : List Leaf} (h : zeroN P n t = some z) : ∃ d, P.underlying t = some d := by
  cases n with
  | zero => simp [zeroN] at h
  | succ n =>
    simp only [zeroN] at h
    cases hu : P.underlying t with
    | none => simp [hu] at h
    | some d => exact ⟨d, rfl⟩

theorem zeroN_struct {n : Nat} {t : TypeId} {fs : Array Field} (hu : P.underlying t = some (.struct fs)) : zeroN P (n + 1) t = fieldZeros (zeroN P n) fs.toList := by
  simp [zeroN, hu]

theorem fieldZeros_info {n : Nat} : ∀ {fs : List Field} {z : List Leaf}, fieldZeros (zeroN P n) fs = some z → ∃ places : List (Nat × Nat), fs.mapM (fun f => (P.info? f.type).map fun i => (f.offset, i.size)) = some places ∧
    ∀ (i : Nat) (f : Go.Field), fs[i]? = some f → places[i]? = some (f.offset, sizeTy P f.type)
  | [], z, _ => ⟨[], by simp, by simp⟩
  | x :: fs, z, h => by
    simp only [fieldZeros] at h
    split at h
    · rename_i z1 h1
      cases h2 : fieldZeros (zeroN P n) fs with
      | none => simp [h2] at h
      | some z2 =>
        obtain ⟨places, h3, h4⟩ := fieldZeros_info h2
        obtain ⟨d, hd⟩ := zeroN_underlying h1
        obtain ⟨i, hi⟩ := info_of_underlying hd
        refine ⟨(x.offset, i.size) :: places, by simp [hi, h3], ?_⟩
        intro j f hj
        cases j with
        | zero => simp at hj; subst hj; simp [sizeTy, hi]
        | succ j => simpa using h4 j f (by simpa using hj)
    · simp at h

theorem tyOfN_info {n : Nat} {e : TypeId} {τ : Ty} (h : tyOfN P n e = some τ) : ∃ i, P.info? e = some i := by
  cases n with
  | zero => simp [tyOfN] at h
  | succ n =>
    cases hu : P.underlying e with
    | none => simp [tyOfN, hu] at h
    | some d => exact info_of_underlying hu
theorem tyOf_info {e : TypeId} {τ : Ty} (h : tyOf P e = some τ) : ∃ i, P.info? e = some i := tyOfN_info h

theorem build_sound {t : TypeId} {parts : List (Nat × AV)} {vs : Array (Nat × Value)} {k : AV → Mem → R} {r : AV × Mem} (hS : Sim ok μ m w) (hp : RepParts ok μ m w parts vs.toList)
    (h : aBuild P m t parts k = some r) : Runs P (do pure (.value (← Instr.build t vs))) w (Post ok μ m w k r) := by
  unfold aBuild at h
  split at h
  · rename_i fs hu
    obtain ⟨z, hz, h⟩ := opt_some.mp h
    obtain ⟨ls, hls, h⟩ := opt_some.mp h
    obtain ⟨i, zv, hi, hzv, hrep⟩ := zero_sound hz
    have hz' := hz
    unfold zero at hz'
    split at hz'
    · rename_i ls' e
      replace e : zeroN P (11 + 1) t = some ls' := e
      rw [zeroN_struct hu] at e
      obtain ⟨places, hpl, hplace⟩ := fieldZeros_info e
      obtain ⟨cells', hf, hr⟩ := buildStruct_sound (P := P) (fs := fs) (place := (places.toArray[·]?)) (by
        intro i f hf
        have := hplace i f (by simpa using hf)
        simpa using this) hp hls (hrep ok μ m w)
      refine Runs.value (run_build w t vs cells' ?_) ⟨_, ok, μ, m, h, Move.refl hS, cells', rfl, hr⟩
      simp only [Program.built, hi, hu, hzv, hpl]
      exact hf
    · simp at hz'
  · rename_i n e hu
    split at h
    · rename_i τ hτ
      simp only [nbeq] at h
      by_cases hw : τ.width = sizeTy P e
      · cases hzz : zeroIs P t [.ar n τ (List.replicate n τ.dflt)] with
        | false => simp [hzz] at h
        | true =>
          simp only [hw, decide_true, hzz, Bool.and_self, cond_true] at h
          obtain ⟨xs, hxs, h⟩ := opt_some.mp h
          obtain ⟨i, zv, hi, hzv, hrep⟩ := zeroIs_sound hzz
          obtain ⟨ie, hie⟩ := tyOf_info hτ
          obtain ⟨ok1, hm1, hro⟩ := ro_sound hS (partIds parts)
          have h0 : RepT ok1 w (.ar n τ) (List.replicate n τ.dflt) zv.cells.toList := RepAll.one.mp (hrep ok1 μ m w)
          obtain ⟨cells', hf, hr, hl⟩ := buildElems_sound hS hm1 hro hw (fun _ h => h) hp hxs (cells := zv.cells) h0.2
          refine Runs.value (run_build w t vs cells' ?_) ⟨_, ok1, μ, _, h, hm1, cells', rfl, RepAll.one.mpr ⟨by simpa using hl, hr⟩⟩
          simp only [Program.built, hi, hu, hzv, hie]
          simpa [sizeTy, hie] using hf
      · simp [hw] at h
    · simp at h
  · simp at h

/-! ### new rows -/
theorem rowAt_of_all {τ : Ty} {xs : List τ.El} {c1 pre rest : List Value} {c : Array Value} (h : RepAll (RepT ok w τ) xs c1) (hc : c.toList = pre ++ c1 ++ rest) : RowAt ok w τ xs c pre.length := by
  intro i hi
  obtain ⟨p, q, s, hpq, hl, hq⟩ := h.nth (wd := τ.width) (fun _ _ h => RepT.length h) i hi
  refine ⟨q, hq, fun j u hj => ?_⟩
  rw [← Array.getElem?_toList]
  have : c.toList = (pre ++ p) ++ q ++ (s ++ rest) := by rw [hc, hpq]; simp
  have h2 := list_mid this hj
  simpa [hl] using h2

/-- What fills up a row. -/
abbrev Rest (ok : Ok) (w : World) (τ : Ty) (rest : List Value) : Prop := ∃ ys : List τ.El, RepAll (RepT ok w τ) ys rest

theorem alloc_arr_fz {d : Option Tmp} {τ : Ty} {xs : List τ.El} {ro : Bool} {lim : Option Nat} {c1 rest : List Value} {cs : Array Value} {cap : Nat} {fz : Nat × Nat} {k : AV → Mem → R} {r : AV × Mem} (hS : Sim ok μ m w) (hfz : FreeT τ fz cs.size) (hw : 0 < τ.width ∧ xs.length ≤ big)
    (hr : RepAll (RepT ok w τ) xs c1) (hc : cs.toList = c1 ++ rest) (hcap : cap * τ.width ≤ cs.size) (hlen : xs.length ≤ cap) (hlim : ∀ c, lim = some c → cap = c)
    (h : allocAt m d (.arr τ xs ro) (fun id m' => k (.one (.ref id (.tail 0) lim)) m') = some r) (E : TypeId) (hsp : Rest ok w τ rest) :
    Post ok μ m w k r (.slice (some ⟨w.heap.size, 0, none⟩) xs.length cap) (w.alloc (.cells cs E fz)) := by
  obtain ⟨i, rfl, hid, h⟩ := allocAt_some h
  have hst := step_alloc (w' := w.alloc (.cells cs E fz)) hS hid (.arr τ xs ro) (some (w.heap.size, 0, cs.size)) rfl
  have hrow := rowAt_of_all (pre := []) hr (by simpa using hc)
  have hl := RepAll.length (fun _ _ h => RepT.length h) hr
  have hmv := move_alloc (w' := w.alloc (.cells cs E fz)) (o := .arr τ xs ro) (sz := cs.size) hS hid rfl
    ⟨hw, .inr ⟨w.heap.size, 0, cs.size, cs, E, fz, Mu.put_self _ _ _, heap_new w _, rfl, hfz, by
      have := congrArg List.length hc
      simp only [Array.length_toList, List.length_append] at this
      omega, hrow.mono hst.grow, fun o ho => by have := hS.okb _ _ ho; omega, by
        obtain ⟨ys, hys⟩ := hsp
        have hyl := RepAll.length (fun _ _ h => RepT.length h) hys
        have h3 := congrArg List.length hc
        simp only [Array.length_toList, List.length_append] at h3
        refine Spare.mono hst.grow ⟨ys, by omega, ?_⟩
        have := rowAt_of_all (pre := c1) (rest := []) (c := cs) hys (by rw [hc]; simp)
        rw [hl] at this
        simpa using this⟩⟩
  refine ⟨_, ok, _, _, h, hmv, _, rfl, by rw [Mu.put_self]; simp, ?_⟩
  simp only [Mem.get_set_self, Option.bind_some, Obj.row]
  refine ⟨_, cap, rfl, ?_, ?_, hlim, fun _ => by omega, .inl ⟨w.heap.size, 0, cs.size, Mu.put_self _ _ _, ?_, ?_⟩⟩
  · simp [View.off, View.lenN]
  · simpa [View.lenN] using hlen
  · simp [View.off]
  · simpa [View.off] using hcap

theorem alloc_arr {d : Option Tmp} {τ : Ty} {xs : List τ.El} {ro : Bool} {lim : Option Nat} {c1 rest : List Value} {cs : Array Value} {cap : Nat} {k : AV → Mem → R} {r : AV × Mem} (hS : Sim ok μ m w) (hw : 0 < τ.width ∧ xs.length ≤ big)
    (hr : RepAll (RepT ok w τ) xs c1) (hc : cs.toList = c1 ++ rest) (hcap : cap * τ.width ≤ cs.size) (hlen : xs.length ≤ cap) (hlim : ∀ c, lim = some c → cap = c)
    (h : allocAt m d (.arr τ xs ro) (fun id m' => k (.one (.ref id (.tail 0) lim)) m') = some r) (E : TypeId) (hsp : Rest ok w τ rest) :
    Post ok μ m w k r (.slice (some ⟨w.heap.size, 0, none⟩) xs.length cap) (w.alloc (.cells cs E)) :=
  alloc_arr_fz hS (.inl rfl) hw hr hc hcap hlen hlim h E hsp

theorem range_mod_list (z : List Value) (z0 : Array Value) (h0 : z0.toList = z) : ∀ n, (List.range (n * z.length)).map (fun i => z0[i % z0.size]!) = (List.replicate n z).flatten
  | 0 => by simp
  | n + 1 => by
    have hsz : z0.size = z.length := by rw [← h0]; rfl
    rw [Nat.succ_mul, List.range_add, List.map_append, range_mod_list z z0 h0 n, List.replicate_succ', List.flatten_append]
    congr 1
    simp only [List.flatten_cons, List.flatten_nil, List.append_nil, List.map_map]
    apply List.ext_getElem?
    intro i
    rcases Nat.lt_or_ge i z.length with h | h
    · simp only [List.getElem?_map, List.getElem?_range h, Option.map_some, Function.comp_apply, hsz]
      rw [Nat.mul_comm, Nat.mul_add_mod, Nat.mod_eq_of_lt h]
      have : i < z0.size := by omega
      rw [getElem!_pos z0 i this, ← h0]
      simp [this]
    · rw [List.getElem?_eq_none (by simpa using h), List.getElem?_eq_none h]

theorem RepAll.replicate {α : Type} {f : α → List Value → Prop} {x : α} {z : List Value} (h : f x z) : ∀ n, RepAll f (List.replicate n x) ((List.replicate n z).flatten)
  | 0 => rfl
  | n + 1 => ⟨z, _, rfl, h, RepAll.replicate h n⟩

theorem elemTy_sound (w0 : World) {t e : TypeId} {τ : Ty} (h : elemTy P t = some τ) (hu : P.underlying t = some (.slice e)) : τ.width = sizeTy P e ∧ 0 < τ.width ∧
    ∃ i z, P.info? e = some i ∧ i.zero = some z ∧ i.size = τ.width ∧ z.cells.size = τ.width ∧ ∀ (ok : Ok) (w : World), RepT ok w τ τ.dflt z.cells.toList := by
  unfold elemTy at h
  simp only [hu] at h
  split at h
  · rename_i σ hσ
    simp only [nbeq] at h
    by_cases hw : σ.width = sizeTy P e
    · cases hb : Nat.blt 0 σ.width with
      | false => simp [hb] at h
      | true =>
        cases hz : zeroIs P e (σ.leaves σ.dflt) with
        | false => simp [hz] at h
        | true =>
          simp only [hw, decide_true, hz, Bool.and_true, Bool.true_and, Option.ite_none_right_eq_some] at h
          have h0 : 0 < σ.width := Nat.le_of_ble_eq_true hb
          rw [← hw, hb, cond_true] at h
          cases h
          obtain ⟨i, z, hi, hz', hrep⟩ := zeroIs_sound hz
          have hT : ∀ (ok : Ok) (w : World), RepT ok w τ τ.dflt z.cells.toList := fun ok w => repT_of_leaves (hrep ok (fun _ => none) [] w)
          exact ⟨hw, h0, i, z, hi, hz', by simpa [sizeTy, hi] using hw.symm, by simpa using RepT.length (hT (fun _ _ => True) w0), hT⟩
    · simp [hw] at h
  · simp at h

theorem made_rep {τ : Ty} {z : Array Value} {n : Nat} (hz : z.size = τ.width) (h : RepT ok w τ τ.dflt z.toList) : RepAll (RepT ok w τ) (List.replicate n τ.dflt) (madeCells z (n * τ.width)).toList := by
  have := RepAll.replicate (f := RepT ok w τ) h n
  rw [← range_mod_list z.toList z rfl] at this
  simp only [madeCells, Array.toList_map, Array.toList_range]
  simpa [hz] using this

theorem makeSlice_sound {d : Option Tmp} {t e : TypeId} {τ : Ty} {κ κ' : IntKind} {l c : Int} {k : AV → Mem → R} {r : AV × Mem} (hS : Sim ok μ m w) (hu : P.underlying t = some (.slice e)) (hτ : elemTy P t = some τ)
    (h : gd (decide (0 ≤ l) && decide (l = c) && decide (l ≤ 1073741824) && decide (l * bytesTy P e ≤ 1073741824))
        (allocAt m d (.arr τ (List.replicate l.toNat τ.dflt) false) fun id m' => k (.one (.ref id (.tail 0) (some l.toNat))) m') = some r) :
    Runs P (do pure (.value (← Instr.makeSlice t (.int κ l) (.int κ' c)))) w (Post ok μ m w k r) := by
  simp only [gd_some, Bool.and_eq_true, decide_eq_true_eq] at h
  obtain ⟨⟨⟨⟨h0, rfl⟩, h2⟩, h3⟩, h⟩ := h
  obtain ⟨hw, hpos, i, z, hi, hz, hsz, hzs, hT⟩ := elemTy_sound w hτ hu
  have hrun := run_make (P := P) w t e i z hu hi hz κ κ' l l h0 (Int.le_refl _) (by
    simp only [bytesTy, hi] at h3
    rw [Int.mul_comm]; omega) (by omega)
  refine Runs.value hrun ?_
  have := alloc_arr (cap := l.toNat) (lim := some l.toNat) (rest := []) (cs := madeCells z.cells (l.toNat * i.size)) hS ⟨hpos, by simp only [List.length_replicate, big]; omega⟩ (made_rep (n := l.toNat) hzs (hT ok w)) (by rw [hsz]; simp) (by rw [size_madeCells, hsz]; exact Nat.le_refl _) (by simp) (by simp) h e ⟨[], rfl⟩
  simpa using this

end
end Go.Ev

/- The abstract evaluator is sound: slice literals. Own work. -/
set_option linter.unusedSimpArgs false
set_option linter.unusedVariables false
namespace Go.Ev
open Go

section
variable {P : Program} {ok : Ok} {μ : Mu} {m : Mem} {w : World}

/-- An element that may not be set yet. -/
def RawEl (ok : Ok) (μ : Mu) (m : Mem) (w : World) (wd : Nat) (l : List Leaf) (cs : List Value) : Prop := (l = [] ∨ RepLs ok μ m w l cs) ∧ cs.length = wd

theorem rawEl_unset {wd : Nat} : ∀ {n : Nat} {cs : List Value}, cs.length = n * wd → RepAll (RawEl ok μ m w wd) (List.replicate n []) cs
  | 0, cs, h => by show cs = []; simpa using h
  | n + 1, cs, h => by
    rw [Nat.succ_mul] at h
    exact ⟨cs.take wd, cs.drop wd, (List.take_append_drop _ _).symm, ⟨.inl rfl, by simp; omega⟩, rawEl_unset (by simp; omega)⟩

theorem buildRaw_sound {e : TypeId} : ∀ {parts : List (Nat × AV)} {vs : List (Nat × Value)} {xs xs' : List (List Leaf)} {cells : Array Value}, RepParts ok μ m w parts vs → buildRaw P e parts xs = some xs' →
      RepAll (RawEl ok μ m w (sizeTy P e)) xs cells.toList →
      ∃ cells', Instr.fill (fun i => some (i * sizeTy P e, sizeTy P e)) cells vs = some cells' ∧ RepAll (RawEl ok μ m w (sizeTy P e)) xs' cells'.toList ∧ xs'.length = xs.length
  | [], vs, xs, xs', cells, hp, h, hr => by
    simp only [RepParts] at hp
    subst hp
    simp only [buildRaw, Option.some.injEq] at h
    subst h
    exact ⟨cells, rfl, hr, rfl⟩
  | (i, x) :: parts, vs, xs, xs', cells, ⟨v, s, e', hx, hp⟩, h, hr => by
    subst e'
    simp only [buildRaw] at h
    split at h
    · rename_i new hnew
      cases hb : Nat.blt i xs.length with
      | false => simp [hb] at h
      | true =>
        simp only [hb, cond_true] at h
        have hi : i < xs.length := Nat.le_of_ble_eq_true hb
        obtain ⟨hn, hsz⟩ := leavesAs_sound hnew hx
        obtain ⟨c, d, e2, hcs, hcl, hd, hset⟩ := hr.nthSet (wd := sizeTy P e) (fun _ _ h => h.2) i hi
        rw [fill_step rfl hsz hcs hcl (by rw [hd.2, hsz])]
        have hr2 := hset new v.cells.toList ⟨.inr hn, by simpa using hsz⟩
        obtain ⟨cells', f1, f2, f3⟩ := buildRaw_sound hp h (cells := (c ++ v.cells.toList ++ e2).toArray) (by simpa using hr2)
        exact ⟨cells', f1, f2, by simpa using f3⟩
    · simp at h

theorem raw_whole {wd : Nat} : ∀ {els : List (List Leaf)} {cs : List Value}, allWide wd els = true → RepAll (RawEl ok μ m w wd) els cs → RepAll (fun l cs => RepLs ok μ m w l cs ∧ cs.length = wd) els cs
  | [], _, _, h => h
  | l :: els, cs, ha, ⟨c, d, e, ⟨h1, h2⟩, h3⟩ => by
    simp only [allWide, nbeq, Bool.and_eq_true, decide_eq_true_eq] at ha
    refine ⟨c, d, e, ⟨?_, h2⟩, raw_whole ha.2 h3⟩
    rcases h1 with rfl | h1
    · have : c = [] := List.length_eq_zero_iff.mp (by rw [h2, ← ha.1]; rfl)
      exact this
    · exact h1

theorem run_buildSlice {t e : TypeId} {n : Nat} {i : TypeInfo} {z : Value} {vs : Array (Nat × Value)} {cells : Array Value} (hu : P.underlying t = some (.slice e)) (hi : P.info? e = some i) (hz : i.zero = some z)
    (hn : n * i.size ≤ 100000) (hf : Instr.fill (fun j => some (j * i.size, i.size)) (madeCells z.cells (n * i.size)) vs.toList = some cells) :
    (Instr.buildSlice t n vs).run P w = .ok (.slice (some ⟨w.heap.size, 0, none⟩) n n) (w.alloc (.cells cells e)) := by
  have h1 : ¬ (16777216 < n * i.size) := by omega
  by_cases h0 : n * i.size = 0
  · simp only [madeCells] at hf
    rw [h0] at hf
    have hr0 : ∀ f : Nat → Value, Array.map f (Array.range 0) = #[] := fun f => by simp [Array.range_zero']
    rw [hr0] at hf
    simp [hr0, Instr.buildSlice, run_underlying hu, sizeOf, typeInfo, hi, h0, newRow, hf]
  · simp only [madeCells] at hf
    simp [Instr.buildSlice, run_underlying hu, sizeOf, typeInfo, zeroValue, hi, hz, h0, h1, newRow, hf]

theorem rawSlice_sound {d : Option Tmp} {t e : TypeId} {n : Nat} {parts : List (Nat × AV)} {vs : Array (Nat × Value)} {k : AV → Mem → R} {r : AV × Mem} (hS : Sim ok μ m w) (hp : RepParts ok μ m w parts vs.toList)
    (hu : P.underlying t = some (.slice e)) (hn : n * sizeTy P e ≤ 100000) (h : rawSlice P m d e n parts k = some r) : Runs P (do pure (.value (← Instr.buildSlice t n vs))) w (Post ok μ m w k r) := by
  unfold rawSlice at h
  split at h
  · rename_i i hi
    cases hz : i.zero with
    | none => simp [hz] at h
    | some z =>
      simp only [hz, Option.isSome_some, cond_true] at h
      split at h
      · rename_i els hels
        cases ha : allWide i.size els with
        | false => simp [ha] at h
        | true =>
          simp only [ha, cond_true] at h
          have hsz : sizeTy P e = i.size := by simp [sizeTy, hi]
          obtain ⟨cells, hf, hr, hl⟩ := buildRaw_sound (P := P) (ok := ok) (μ := μ) (m := m) (w := w) hp hels (cells := madeCells z.cells (n * i.size)) (rawEl_unset (by rw [hsz]; simp [size_madeCells]))
          rw [hsz] at hf hr
          simp only [List.length_replicate] at hl
          have hr := raw_whole ha hr
          have hcl : cells.size = n * i.size := by
            have := RepAll.length (fun _ _ h => h.2) hr
            rw [hl] at this
            simpa using this
          refine Runs.value (run_buildSlice hu hi hz (by rwa [hsz] at hn) hf) ?_
          obtain ⟨j, rfl, hid, h⟩ := allocAt_some h
          have hst := step_alloc (w' := w.alloc (.cells cells e)) hS hid (.raw i.size els) (some (w.heap.size, 0, cells.size)) rfl
          have hmv := move_alloc (w' := w.alloc (.cells cells e)) (o := .raw i.size els) (sz := cells.size) hS hid rfl
            ⟨w.heap.size, cells.size, cells, e, (0, 0), Mu.put_self _ _ _, heap_new w _, rfl, .inl rfl, RepAll.mono (fun _ _ h => ⟨h.1.step' hS hst, h.2⟩) hr, fun o ho => by have := hS.okb _ _ ho; omega⟩
          refine ⟨_, ok, _, _, h, hmv, _, rfl, by rw [Mu.put_self]; simp, ?_⟩
          simp only [Mem.get_set_self, Option.bind_some, Obj.row]
          refine ⟨some ⟨w.heap.size, 0, none⟩, n, by simp [View.lenN, hl], ?_, ?_, by simp, by simp, .inl ⟨w.heap.size, 0, cells.size, Mu.put_self _ _ _, by simp [View.off], by simp [View.off, hcl]⟩⟩
          · simp [View.off, View.lenN]
          · simp [View.lenN, hl]
      · simp at h
  · simp at h

theorem buildSlice_sound {d : Option Tmp} {t : TypeId} {n : Nat} {parts : List (Nat × AV)} {vs : Array (Nat × Value)} {k : AV → Mem → R} {r : AV × Mem} (hS : Sim ok μ m w) (hp : RepParts ok μ m w parts vs.toList)
    (h : aBuildSlice P m d t n parts k = some r) : Runs P (do pure (.value (← Instr.buildSlice t n vs))) w (Post ok μ m w k r) := by
  unfold aBuildSlice at h
  split at h
  · rename_i e hu
    cases hb : Nat.blt 100000 (n * sizeTy P e) with
    | true => simp [hb] at h
    | false =>
      simp only [hb, cond_false] at h
      have hn : n * sizeTy P e ≤ 100000 := by
        rcases Nat.lt_or_ge 100000 (n * sizeTy P e) with h1 | h1
        · have : Nat.blt 100000 (n * sizeTy P e) = true := Nat.ble_eq_true_of_le h1
          rw [this] at hb; cases hb
        · exact h1
      split at h
      · rename_i τ hτ
        split at h
        · rename_i xs hxs
          obtain ⟨hw, hpos, i, z, hi, hz, hsz, hzs, hT⟩ := elemTy_sound w hτ hu
          obtain ⟨ok1, hm1, hro⟩ := ro_sound hS (partIds parts)
          obtain ⟨cells, hf, hr, hl⟩ := buildElems_sound hS hm1 hro hw (fun _ h => h) hp hxs (cells := madeCells z.cells (n * τ.width)) (made_rep hzs (hT ok1 w))
          simp only [List.length_replicate] at hl
          rw [← hw, ← hsz] at hf
          refine Runs.value (run_buildSlice hu hi hz (by rw [hsz, hw]; exact hn) hf) (Post.move hm1 ?_)
          have hcl : cells.size = n * τ.width := by
            have := RepAll.length (fun _ _ h => RepT.length h) hr
            rw [hl] at this
            simpa using this
          have := alloc_arr (cap := n) (lim := some n) (rest := []) (cs := cells) hm1.sim ⟨hpos, by
            rw [hl]
            have h1 : n * 1 ≤ n * τ.width := Nat.mul_le_mul_left n hpos
            rw [hw] at h1
            unfold big; omega⟩ hr (by simp) (by rw [hcl]; exact Nat.le_refl _) (by omega) (by simp) h e ⟨[], rfl⟩
          rwa [hl] at this
        · exact rawSlice_sound hS hp hu hn h
      · exact rawSlice_sound hS hp hu hn h
  · simp at h

end
end Go.Ev
