/- It is proved that for every input of 'pagemendlaw09.WaitsArise' the call returns true and leaves its arguments as they read before: whatever the drawn requests and releases are, the table of locks stays whole, the answer of Would is the circle of the table that the request would make, and as long as such requests are cancelled no circle arises and every chain of waiting ends. Conditions: none beyond the row's own. -/
import Derived.Test.YtniigndkhlhlcaaP09
import Derived.Test.YtniigndkhlhlcaaP06
import Derived.ProofKit
import Derived.OpenShut
import Derived.Carry
import Derived.Test.YtniigndkhlhlcaaRows
import Derived.SizedLaws
set_option linter.all false
/- The law of waits that arise: its outer loop. Own work. -/
set_option maxRecDepth 100000
set_option maxHeartbeats 1000000
set_option linter.unusedVariables false
set_option linter.unusedSimpArgs false
namespace Go.Ev.Tab
open Go Go.Ev.X Go.Proofs

theorem nxA_le (l : List Int) (a : Nat) : a ≤ nxA l a ∧ (a ≤ l.length → nxA l a ≤ l.length) ∧ (a < l.length → a < nxA l a) := by
  unfold nxA
  cases h : decide (a < l.length) with
  | true =>
    have := of_decide_eq_true h
    rw [cond_true]
    omega
  | false =>
    have := of_decide_eq_false h
    rw [cond_false]
    omega
theorem req_err {xs ws : List GG} {g : GG} {e : Int} (h : reqF xs ws g = .err e) : (e != 0) = true := by
  unfold reqF at h
  cases h1 : tabOk xs ws with
  | false => rw [h1, cond_false] at h; cases h; rfl
  | true =>
    rw [h1, cond_true] at h
    cases h2 : valid g with
    | false => rw [h2, cond_false] at h; cases h; rfl
    | true =>
      rw [h2, cond_true] at h
      cases h3 : (waitF xs ws g.1).2 with
      | true =>
        rw [h3, cond_true] at h
        cases hz : (waitF xs ws g.1).1.1 == g.1 && ((waitF xs ws g.1).1.2.1.1 == g.2.1.1 && (waitF xs ws g.1).1.2.1.2 == g.2.1.2 && (waitF xs ws g.1).1.2.2 == g.2.2) with
        | true => rw [hz, cond_true] at h; cases h
        | false => rw [hz, cond_false] at h; cases h; rfl
      | false =>
        rw [h3, cond_false] at h
        cases h4 : decide (modeI xs g.1 g.2.1 ≥ g.2.2) with
        | true => rw [h4, cond_true] at h; cases h
        | false =>
          rw [h4, cond_false] at h
          cases h5 : decide (xs.length + ws.length = 1024) with
          | true => rw [h5, cond_true] at h; cases h; rfl
          | false => rw [h5, cond_false] at h; cases h
theorem law5_ok (l : List Int) : LoopOK (lawC l) (loopB 5 (codeOf fx4)) (law5 l) := by
  refine loopP_ok (fun x y h h' => laM_inj h') (fun x => l.length - x.a) ?_
  rintro ⟨a, xs, ws, n, m⟩ K r N ⟨hG, ha, hl, hby⟩ hN hf
  try dsimp only at hG
  try dsimp only at ha
  try dsimp only at hN
  try dsimp only at hf
  rcases Nat.lt_or_ge a l.length with h | h
  · have a1 := nxA_le l a
    have a2 := nxA_le l (nxA l a)
    have a3 := nxA_le l (nxA l (nxA l a))
    have a4 := nxA_le l (nxA l (nxA l (nxA l a)))
    have a5 := nxA_le l (grA l a)
    have hgA : grA l a = nxA l (nxA l (nxA l (nxA l a))) := rfl
    have hle : nxA l (grA l a) ≤ l.length ∧ l.length - nxA l (grA l a) < l.length - a := by omega
    have hg : 1 ≤ (grV l a).1 ∧ (grV l a).1 ≤ 5 := by
      have := nxV_bnd l a 5 (by omega)
      show 1 ≤ 1 + nxV l a 5 ∧ 1 + nxV l a 5 ≤ 5
      omega
    cases h4 : nxV l (grA l a) 7 == 4 with
    | true =>
      have hG' := hG.red (red_cancel (grV l a).1 hG.tab)
      have ht := tabOk_of hG'.tab
      conv => lhs; whnf
      repeat' ((first | split | ((conv => lhs; arg 3; whnf); split)) <;> first | (exfalso; rename_i hx; first | (simp (disch := omega) [leavesIds, V.leaves, Leaf.ids, mem?, nbeq, Ty.width, wrap_id, View.lenN, View.off, View.len_eq, sees_tail, sees_sub, rec_k, tn1, tn2, tn3, tn4, tn5, tn6, hl, hby, ha, h4] at hx; done) | (simp (disch := omega) [leavesIds, V.leaves, Leaf.ids, mem?, nbeq, Ty.width, wrap_id, View.lenN, View.off, View.len_eq, sees_tail, sees_sub, rec_k, tn1, tn2, tn3, tn4, tn5, tn6, hl, hby, ha, h4] at hx; omega) | (refine absurd (hx.symm.trans ?_) Bool.false_ne_true; (try simp only [Bool.and_eq_true, decide_eq_true_eq]); (try simp (disch := omega) [leavesIds, V.leaves, Leaf.ids, mem?, nbeq, Ty.width, wrap_id, View.lenN, View.off, View.len_eq, sees_tail, sees_sub, rec_k, tn1, tn2, tn3, tn4, tn5, tn6, hl, hby, ha, h4]); (try omega); done) | omega) | (rename_i he; cases he; conv => lhs; whnf) | (conv => lhs; whnf))
      refine (loopP_eq law25_inj (x := ⟨⟨nxA l (grA l a), (cancelF xs ws (grV l a).1).1, (cancelF xs ws (grV l a).1).2, none, none⟩, 1⟩) ⟨hG', Nat.le_refl _, by simp only; omega⟩ _).trans ?_
      dsimp only
      conv => lhs; whnf
      exact (hN ⟨nxA l (grA l a), (cancelF xs ws (grV l a).1).1, (cancelF xs ws (grV l a).1).2, none, none⟩ ⟨hG', hle.1, hl, hby⟩ hle.2).trans hf
    | false =>
      cases h5 : nxV l (grA l a) 7 == 5 with
      | true =>
        have hG' := hG.red (red_drop (grV l a).1 (grV l a).2.1.1 (grV l a).2.1.2 hG.tab)
        have ht := tabOk_of hG'.tab
        conv => lhs; whnf
        repeat' ((first | split | ((conv => lhs; arg 3; whnf); split)) <;> first | (exfalso; rename_i hx; first | (simp (disch := omega) [leavesIds, V.leaves, Leaf.ids, mem?, nbeq, Ty.width, wrap_id, View.lenN, View.off, View.len_eq, sees_tail, sees_sub, rec_k, tn1, tn2, tn3, tn4, tn5, tn6, hl, hby, ha, h4, h5] at hx; done) | (simp (disch := omega) [leavesIds, V.leaves, Leaf.ids, mem?, nbeq, Ty.width, wrap_id, View.lenN, View.off, View.len_eq, sees_tail, sees_sub, rec_k, tn1, tn2, tn3, tn4, tn5, tn6, hl, hby, ha, h4, h5] at hx; omega) | (refine absurd (hx.symm.trans ?_) Bool.false_ne_true; (try simp only [Bool.and_eq_true, decide_eq_true_eq]); (try simp (disch := omega) [leavesIds, V.leaves, Leaf.ids, mem?, nbeq, Ty.width, wrap_id, View.lenN, View.off, View.len_eq, sees_tail, sees_sub, rec_k, tn1, tn2, tn3, tn4, tn5, tn6, hl, hby, ha, h4, h5]); (try omega); done) | omega) | (rename_i he; cases he; conv => lhs; whnf) | (conv => lhs; whnf))
        refine (loopP_eq law25_inj (x := ⟨⟨nxA l (grA l a), (dropF xs ws (grV l a).1 (grV l a).2.1.1 (grV l a).2.1.2).1, (dropF xs ws (grV l a).1 (grV l a).2.1.1 (grV l a).2.1.2).2, none, none⟩, 1⟩) ⟨hG', Nat.le_refl _, by simp only; omega⟩ _).trans ?_
        dsimp only
        conv => lhs; whnf
        exact (hN ⟨nxA l (grA l a), (dropF xs ws (grV l a).1 (grV l a).2.1.1 (grV l a).2.1.2).1, (dropF xs ws (grV l a).1 (grV l a).2.1.1 (grV l a).2.1.2).2, none, none⟩ ⟨hG', hle.1, hl, hby⟩ hle.2).trans hf
      | false =>
        cases h6 : nxV l (grA l a) 7 == 6 with
        | true =>
          have hG' := hG.red (red_release (grV l a).1 hG.tab)
          have ht := tabOk_of hG'.tab
          conv => lhs; whnf
          repeat' ((first | split | ((conv => lhs; arg 3; whnf); split)) <;> first | (exfalso; rename_i hx; first | (simp (disch := omega) [leavesIds, V.leaves, Leaf.ids, mem?, nbeq, Ty.width, wrap_id, View.lenN, View.off, View.len_eq, sees_tail, sees_sub, rec_k, tn1, tn2, tn3, tn4, tn5, tn6, hl, hby, ha, h4, h5, h6] at hx; done) | (simp (disch := omega) [leavesIds, V.leaves, Leaf.ids, mem?, nbeq, Ty.width, wrap_id, View.lenN, View.off, View.len_eq, sees_tail, sees_sub, rec_k, tn1, tn2, tn3, tn4, tn5, tn6, hl, hby, ha, h4, h5, h6] at hx; omega) | (refine absurd (hx.symm.trans ?_) Bool.false_ne_true; (try simp only [Bool.and_eq_true, decide_eq_true_eq]); (try simp (disch := omega) [leavesIds, V.leaves, Leaf.ids, mem?, nbeq, Ty.width, wrap_id, View.lenN, View.off, View.len_eq, sees_tail, sees_sub, rec_k, tn1, tn2, tn3, tn4, tn5, tn6, hl, hby, ha, h4, h5, h6]); (try omega); done) | omega) | (rename_i he; cases he; conv => lhs; whnf) | (conv => lhs; whnf))
          refine (loopP_eq law25_inj (x := ⟨⟨nxA l (grA l a), (releaseF xs ws (grV l a).1).1, (releaseF xs ws (grV l a).1).2, none, none⟩, 1⟩) ⟨hG', Nat.le_refl _, by simp only; omega⟩ _).trans ?_
          dsimp only
          conv => lhs; whnf
          exact (hN ⟨nxA l (grA l a), (releaseF xs ws (grV l a).1).1, (releaseF xs ws (grV l a).1).2, none, none⟩ ⟨hG', hle.1, hl, hby⟩ hle.2).trans hf
        | false =>
          cases hq : reqF xs ws (grV l a) with
          | err e =>
            conv => lhs; whnf
            iterate 7 ((first | split | ((conv => lhs; arg 3; whnf); split)) <;> first | (exfalso; rename_i hx; first | (simp (disch := omega) [leavesIds, V.leaves, Leaf.ids, mem?, nbeq, Ty.width, wrap_id, View.lenN, View.off, View.len_eq, sees_tail, sees_sub, rec_k, tn1, tn2, tn3, tn4, tn5, tn6, hl, hby, ha, h4, h5, h6] at hx; done) | (simp (disch := omega) [leavesIds, V.leaves, Leaf.ids, mem?, nbeq, Ty.width, wrap_id, View.lenN, View.off, View.len_eq, sees_tail, sees_sub, rec_k, tn1, tn2, tn3, tn4, tn5, tn6, hl, hby, ha, h4, h5, h6] at hx; omega) | (refine absurd (hx.symm.trans ?_) Bool.false_ne_true; (try simp only [Bool.and_eq_true, decide_eq_true_eq]); (try simp (disch := omega) [leavesIds, V.leaves, Leaf.ids, mem?, nbeq, Ty.width, wrap_id, View.lenN, View.off, View.len_eq, sees_tail, sees_sub, rec_k, tn1, tn2, tn3, tn4, tn5, tn6, hl, hby, ha, h4, h5, h6]); (try omega); done) | omega) | (conv => lhs; whnf))
            split
            rotate_left
            · rename_i hx
              have hx' : frz [] (reqAV (reqF xs ws (grV l a))) = none := hx
              rw [hq] at hx'
              cases hx'
            rename_i hx
            have hx' : frz [] (reqAV (reqF xs ws (grV l a))) = some _ := hx
            rw [hq] at hx'
            cases hx'
            have he := req_err hq
            conv => lhs; whnf
            split
            rotate_left
            · rename_i hx
              exact tf (he) hx
            conv => lhs; whnf
            exact (hN ⟨nxA l (grA l a), xs, ws, n, m⟩ ⟨hG, hle.1, hl, hby⟩ hle.2).trans hf
          | ok xs' ws' b =>
            obtain ⟨hT', hR'⟩ := req_mid hG hg hq
            have e1 : @decide (∀ t, blkFew xs' ws' t = true) (Classical.propDecidable _) = true := by
              simp only [decide_eq_true_eq]
              exact few_ok hT' hR'
            conv => lhs; whnf
            iterate 7 ((first | split | ((conv => lhs; arg 3; whnf); split)) <;> first | (exfalso; rename_i hx; first | (simp (disch := omega) [leavesIds, V.leaves, Leaf.ids, mem?, nbeq, Ty.width, wrap_id, View.lenN, View.off, View.len_eq, sees_tail, sees_sub, rec_k, tn1, tn2, tn3, tn4, tn5, tn6, hl, hby, ha, h4, h5, h6] at hx; done) | (simp (disch := omega) [leavesIds, V.leaves, Leaf.ids, mem?, nbeq, Ty.width, wrap_id, View.lenN, View.off, View.len_eq, sees_tail, sees_sub, rec_k, tn1, tn2, tn3, tn4, tn5, tn6, hl, hby, ha, h4, h5, h6] at hx; omega) | (refine absurd (hx.symm.trans ?_) Bool.false_ne_true; (try simp only [Bool.and_eq_true, decide_eq_true_eq]); (try simp (disch := omega) [leavesIds, V.leaves, Leaf.ids, mem?, nbeq, Ty.width, wrap_id, View.lenN, View.off, View.len_eq, sees_tail, sees_sub, rec_k, tn1, tn2, tn3, tn4, tn5, tn6, hl, hby, ha, h4, h5, h6]); (try omega); done) | omega) | (conv => lhs; whnf))
            split
            rotate_left
            · rename_i hx
              have hx' : frz [] (reqAV (reqF xs ws (grV l a))) = none := hx
              rw [hq] at hx'
              cases hx'
            rename_i hx
            have hx' : frz [] (reqAV (reqF xs ws (grV l a))) = some _ := hx
            rw [hq] at hx'
            cases hx'
            conv => lhs; whnf
            split
            rotate_left
            · rename_i hx
              cases hx.symm.trans hq
            rename_i hx
            cases hx.symm.trans hq
            conv => lhs; whnf
            split
            rotate_left
            · rename_i hx
              exact tf (e1) hx
            conv => lhs; whnf
            split
            rotate_left
            · rename_i hx
              exact tf (e1) hx
            conv => lhs; whnf
            have e2 : (!decide (cycF xs' ws' (grV l a).1 = cycF xs' ws' (grV l a).1)) = false := by simp
            split
            · rename_i hx
              exact tf hx (e2)
            conv => lhs; whnf
            by_cases hcy : cycF xs' ws' (grV l a).1 = []
            · have hG' := req_good hG hg hq hcy
              have ht := tabOk_of hG'.tab
              repeat' ((first | split | ((conv => lhs; arg 3; whnf); split)) <;> first | (exfalso; rename_i hx; first | (simp (disch := omega) [leavesIds, V.leaves, Leaf.ids, mem?, nbeq, Ty.width, wrap_id, View.lenN, View.off, View.len_eq, sees_tail, sees_sub, rec_k, tn1, tn2, tn3, tn4, tn5, tn6, hcy, ht] at hx; done) | (simp (disch := omega) [leavesIds, V.leaves, Leaf.ids, mem?, nbeq, Ty.width, wrap_id, View.lenN, View.off, View.len_eq, sees_tail, sees_sub, rec_k, tn1, tn2, tn3, tn4, tn5, tn6, hcy, ht] at hx; omega) | (refine absurd (hx.symm.trans ?_) Bool.false_ne_true; (try simp only [Bool.and_eq_true, decide_eq_true_eq]); (try simp (disch := omega) [leavesIds, V.leaves, Leaf.ids, mem?, nbeq, Ty.width, wrap_id, View.lenN, View.off, View.len_eq, sees_tail, sees_sub, rec_k, tn1, tn2, tn3, tn4, tn5, tn6, hcy, ht]); (try omega); done) | omega) | (rename_i he; cases he; conv => lhs; whnf) | (conv => lhs; whnf))
              refine (loopP_eq law25_inj (x := ⟨⟨nxA l (grA l a), xs', ws', none, none⟩, 1⟩) ⟨hG', Nat.le_refl _, by simp only; omega⟩ _).trans ?_
              dsimp only
              conv => lhs; whnf
              exact (hN ⟨nxA l (grA l a), xs', ws', none, none⟩ ⟨hG', hle.1, hl, hby⟩ hle.2).trans hf
            · have hG' := req_cancel hG hg hq
              have ht := tabOk_of hG'.tab
              repeat' ((first | split | ((conv => lhs; arg 3; whnf); split)) <;> first | (exfalso; rename_i hx; first | (simp (disch := omega) [leavesIds, V.leaves, Leaf.ids, mem?, nbeq, Ty.width, wrap_id, View.lenN, View.off, View.len_eq, sees_tail, sees_sub, rec_k, tn1, tn2, tn3, tn4, tn5, tn6, hcy, ht] at hx; done) | (simp (disch := omega) [leavesIds, V.leaves, Leaf.ids, mem?, nbeq, Ty.width, wrap_id, View.lenN, View.off, View.len_eq, sees_tail, sees_sub, rec_k, tn1, tn2, tn3, tn4, tn5, tn6, hcy, ht] at hx; omega) | (refine absurd (hx.symm.trans ?_) Bool.false_ne_true; (try simp only [Bool.and_eq_true, decide_eq_true_eq]); (try simp (disch := omega) [leavesIds, V.leaves, Leaf.ids, mem?, nbeq, Ty.width, wrap_id, View.lenN, View.off, View.len_eq, sees_tail, sees_sub, rec_k, tn1, tn2, tn3, tn4, tn5, tn6, hcy, ht]); (try omega); done) | omega) | (rename_i he; cases he; conv => lhs; whnf) | (conv => lhs; whnf))
              refine (loopP_eq law25_inj (x := ⟨⟨nxA l (grA l a), (cancelF xs' ws' (grV l a).1).1, (cancelF xs' ws' (grV l a).1).2, none, none⟩, 1⟩) ⟨hG', Nat.le_refl _, by simp only; omega⟩ _).trans ?_
              dsimp only
              conv => lhs; whnf
              exact (hN ⟨nxA l (grA l a), (cancelF xs' ws' (grV l a).1).1, (cancelF xs' ws' (grV l a).1).2, none, none⟩ ⟨hG', hle.1, hl, hby⟩ hle.2).trans hf
  · have e : (a : Int) = l.length := by omega
    conv => lhs; whnf
    repeat' ((first | split | ((conv => lhs; arg 3; whnf); split)) <;> first | (exfalso; rename_i hx; first | (simp (disch := omega) [leavesIds, V.leaves, Leaf.ids, mem?, nbeq, Ty.width, wrap_id, View.lenN, View.off, View.len_eq, sees_tail, sees_sub, rec_k, tn1, tn2, tn3, tn4, tn5, tn6, hl, hby, ha, e] at hx; done) | (simp (disch := omega) [leavesIds, V.leaves, Leaf.ids, mem?, nbeq, Ty.width, wrap_id, View.lenN, View.off, View.len_eq, sees_tail, sees_sub, rec_k, tn1, tn2, tn3, tn4, tn5, tn6, hl, hby, ha, e] at hx; omega) | (refine absurd (hx.symm.trans ?_) Bool.false_ne_true; (try simp only [Bool.and_eq_true, decide_eq_true_eq]); (try simp (disch := omega) [leavesIds, V.leaves, Leaf.ids, mem?, nbeq, Ty.width, wrap_id, View.lenN, View.off, View.len_eq, sees_tail, sees_sub, rec_k, tn1, tn2, tn3, tn4, tn5, tn6, hl, hby, ha, e]); (try omega); done) | omega) | (rename_i he; cases he; conv => lhs; whnf) | (conv => lhs; whnf))
    exact hf
end Go.Ev.Tab

/- The law of waits that arise: the walk. Own work. -/
set_option maxRecDepth 100000
set_option maxHeartbeats 1000000
set_option linter.unusedVariables false
set_option linter.unusedSimpArgs false
namespace Go.Ev
open Go Go.ChangeShapes Go.WideShapes
/-! ### a slice of integers that comes in -/
theorem Kept.same {W W' : World} (h : Kept W W') {p : MemPlace} (hp : p.block < W.heap.size) : W.sameAt W' p := by
  cases p with
  | cell b o => exact World.cell?_of_block (w := W) (h.2 b hp)
  | map b => exact h.2 b hp
theorem Kept.trod {H : Type} {enc : TypeId × Value → H} {P : Program} {t : TypeId} (hl : laidOutB P = true) (hr : P.readableRec t = true) (hrow : t < P.types.size) {W W' : World} {v : Value} {d : DataW H} {ps : List MemPlace}
    (h : DataW.Trod enc P W 0 (fun _ => true) true t v d ps) (hk : Kept W W') (hlt : ∀ x ∈ ps, x.block < W.heap.size) {sp : Nat → Bool} (hs : ∀ x ∈ ps, sp x.block = true) : DataW.Trod enc P W' 0 sp true t v d ps :=
  WideElems.Trod_stays hl hr hrow h (fun x hx => hk.same (hlt x hx)) hs
theorem cell_block {W : World} {b o : Nat} {v : Value} (h : W.cell? ⟨b, o, none⟩ = some v) : b < W.heap.size := by
  rcases Nat.lt_or_ge b W.heap.size with hb | hb
  · exact hb
  · have : W.heap[b]? = none := by simp [hb]
    simp [World.cell?, this] at h
theorem ints_rep {W : World} {k : IntKind} {a : Addr} {len cap : Nat} {zs : List Int} (hle : len ≤ cap) (hmax : cap ≤ big) (hall : zs.length = cap) (hcell : ∀ i, i < zs.length → W.cell? (a.add i) = some (.int k (zs.getD i 0))) :
    RepAV (fun b _ => b < W.heap.size) (fun _ => none) [] W (.one (.sl (.int k) (zs.take len) none none)) (.slice (some a) len cap) := by
  have hlen : (zs.take len).length = len := by rw [List.length_take]; omega
  show RepL (fun b _ => b < W.heap.size) (fun _ => none) [] W (.sl (.int k) (zs.take len) none none) [.slice (some a) len cap]
  refine ⟨⟨some a, cap, by rw [hlen], ⟨by rw [hlen]; exact hle, ?_⟩, (fun h => by cases h), fun ad had => ?_⟩, some a, len, cap, rfl, (fun h => by cases h), (fun h => by cases h), fun c h => by cases h⟩
  · rw [hlen]; omega
  · cases had
    by_cases hz : len = 0
    · subst hz
      exact ⟨.inl (by simp), fun i h => absurd h (by simp)⟩
    · obtain ⟨b, off, rfl, hc⟩ := ints_at hcell (by omega)
      refine ⟨.inr rfl, fun i h => ⟨[.int k ((zs.take len)[i])], rfl, ?_⟩⟩
      intro j u hj
      rw [hlen] at h
      cases j with
      | succ j => simp at hj
      | zero =>
        simp only [List.getElem?_cons_zero, Option.some.injEq] at hj
        have := hc i (by omega)
        refine ⟨cell_block this, ?_⟩
        show W.cell? ⟨b, off + i * 1 + 0, none⟩ = some u
        rw [← hj, show off + i * 1 + 0 = off + i by omega, this, List.getElem_take, List.getD_eq_getElem?_getD, List.getElem?_eq_getElem (by omega)]
        rfl
theorem nil_rep {W : World} {k : IntKind} : RepAV (fun b _ => b < W.heap.size) (fun _ => none) [] W (.one (.sl (.int k) [] none none)) (.slice none 0 0) := by
  show RepL (fun b _ => b < W.heap.size) (fun _ => none) [] W (.sl (.int k) [] none none) [.slice none 0 0]
  exact ⟨⟨none, 0, rfl, ⟨Nat.le_refl _, Nat.zero_le _⟩, fun _ => rfl, fun ad had => by cases had⟩, none, 0, 0, rfl, (fun _ => rfl), (fun h => by cases h), fun c h => by cases h⟩
end Go.Ev
namespace Go.Ev.Tab
open Go Go.Ev.X Go.Proofs

theorem arise_all (l : List Int) (hb : bytes l = true) (k : AK) : body (lawC (l.take 300)) (codeOf fx4) [.one (.sl U8 l none none)] [] k = k (.one (.bool true)) [] := by
  have hb' : bytes (l.take 300) = true := by
    unfold bytes at *
    rw [List.all_eq_true] at *
    exact fun x hx => hb x (List.mem_of_mem_take hx)
  have hl' : (l.take 300).length ≤ 300 := by rw [List.length_take]; omega
  conv => lhs; whnf
  refine (loopP_eq (fun x y h h' => laM_inj h') (x := ⟨0, [], [], some true, some 0⟩) ⟨good0, Nat.zero_le _, hl', hb'⟩ _).trans ?_
  conv => lhs; whnf
  try rfl
theorem law_a (l : List Int) : COK Try.prog 4 (body (lawC l) (codeOf fx4)) :=
  fn_ok (x := fx4) (H := lawH) (L := [(31, law31 l), (25, law25 l), (5, law5 l)]) rfl rfl ⟨awake_ok, new_ok, left_ok, grant_ok, next_ok, cancel_ok, drop_ok, release_ok, request_ok, would_ok, cycle_ok, ints_ok, rvalid_ok, for_ok, trivial⟩ (by kernel_rfl) ⟨law31_ok l, law25_ok l, law5_ok l, trivial⟩
theorem arise_walk {W : World} {v : Value} (l : List Int) (hb : bytes l = true) (hr : RepAV (fun b _ => b < W.heap.size) (fun _ => none) [] W (.one (.sl U8 l none none)) v) :
    Calls Try.prog 4 #[v] W fun e w' => e = .returned (.bool true) ∧ Kept W w' :=
  calls_kept (law_a (l.take 300)) (args := [.one (.sl U8 l none none)]) ⟨_, _, rfl, hr, rfl⟩ (fun w => tab.enter (x := fx4) rfl rfl _ w) (fun k => arise_all l hb k)
theorem bytes_of {l : List Int} (h : ∀ n ∈ l, (Lit.int .u8 n).wf = true) : bytes l = true := by
  unfold bytes
  rw [List.all_eq_true]
  intro x hx
  have := h x hx
  simp only [Lit.wf, IntKind.min, IntKind.max, IntKind.signed, IntKind.bits] at this
  simp at this ⊢
  omega
end Go.Ev.Tab


namespace Go.Proofs.Ytniigndkhlhlcaa.WaitsArise
open Go.ChangeShapes Go.WideShapes Go.ChangeAt Go.RowKit
set_option linter.unusedVariables false

theorem own : ownKnob Try.prog.godebug = none := by kernel_rfl
theorem laidOut : laidOutB Try.prog = true := by kernel_rfl

set_option maxRecDepth 100000 in
theorem lifted (os : Os) (started : os.Started) (H : Type) (enc : TypeId × Value → H) :
    ReturnsInHanded {} Try.checked os 4 .any (Rows.waitsAriseSpec.pre6 enc Try.prog Try.f4 Rows.waitsAriseRow.domain false) (Rows.waitsAriseSpec.post enc Try.prog Try.f4 false true false false) := by
  refine returnsInHanded_of_change_sized (C := Try.checked) own started (by kernel_rfl) Try.func4
    (ChangeSpec.witness6 (enc := enc) (C := Try.checked) false ⟨#[], #[.slice none 0 0], []⟩ 8 (by kernel_rfl) (by kernel_rfl) (by kernel_rfl) (by kernel_rfl)) ?_
  intro W base args ds gs before hval0 hW hcnd hsz _
  have hval : ∀ (j : Nat) t v, Try.f4.params[j]? = some t → args[j]? = some v → Value.okWide Try.prog W .any base t v := hval0
  have hW' := hW
  obtain ⟨p, q, hA0, hV, rfl, hfz, hnd⟩ := hW
  have hA : DataW.TrodAll enc Try.prog W 0 (fun _ => true) true Try.f4.params.toList args.toList ds p := hA0
  rw [Try.params4] at hA hval
  obtain ⟨v0, vs0, d0, ds0, p0, q0, hargs, rfl, rfl, h0, r0⟩ := trodAll_cons hA
  obtain ⟨rfl, rfl, rfl⟩ := trodAll_nil r0
  obtain rfl : args = #[v0] := by cases args; simp_all
  obtain ⟨rfl, rfl⟩ := trodVars_none hV
  have h0k := h0
  have hlt : ∀ x ∈ p0, x.block < W.heap.size := fun x hx => by simpa using hW'.lt x (by simpa using hx)
  have hend : ∀ (l : List Int), Go.Ev.Tab.bytes l = true → Go.Ev.RepAV (fun b _ => b < W.heap.size) (fun _ => none) [] W (.one (.sl (.int .u8) l none none)) v0 → Calls Try.prog 4 #[v0] W fun e W' => ∃ v, e = .returned v ∧ Rows.waitsAriseSpec.post enc Try.prog Try.f4 false true false false W #[v0] v W' := by
    intro l hl hr
    simp only [List.append_nil] at hW'
    refine (Go.Ev.Tab.arise_walk l hl hr).mono fun e W' ⟨he, hg⟩ => ?_
    subst he
    exact ⟨_, rfl, Go.Ev.post_of_kept (pa := p0) (pv := []) hW' (fun _ _ _ => (trodAll_cons_mk (shut_bool Try.underlying4 _) trodAll_mk0))
      (fun sp hsp => by
        have := trodAll_mk1 (Go.Ev.Kept.trod laidOut (by kernel_rfl) (of_decide_eq_true (by kernel_rfl)) h0k hg hlt (sp := sp) hsp)
        exact this) (fun _ _ => rfl) (by simp)
      hg (ok_one (by kernel_rfl) rfl (okWide_bool_mk Try.underlying4 _))⟩
  clear hA0 hval0
  have hu : Try.prog.underlying 33 = some (.slice 5) := Try.underlying33
  obtain ⟨a0, len, cap, rfl⟩ := okWide_slice hu (hval 0 33 _ rfl rfl)
  obtain ⟨fuel, hf⟩ := h0
  have hc1 : Try.prog.cellsOf 5 = 1 := by kernel_rfl
  rcases open_ints hu Try.underlying5 hc1 hf with ⟨hcs, hx⟩ | ⟨a, len', cap', zs, hcs, _, hle, hmax, hall, hx, hcell, hwf⟩
  · simp [Value.cells] at hcs
    obtain ⟨rfl, rfl, rfl⟩ := hcs
    exact hend [] rfl Go.Ev.nil_rep
  · simp [Value.cells] at hcs
    obtain ⟨rfl, rfl, rfl⟩ := hcs
    simp only [Prod.mk.injEq] at hx
    obtain ⟨rfl, rfl⟩ := hx
    simp only [if_true] at hall
    have hs := sized_slice hsz (j := 0) (t := 33) (e := 5) rfl rfl hu
    have hb1 : Try.checked.prog.bytesOf 5 = 1 := by kernel_rfl
    have hr := reachBytes_lt
    rw [hb1] at hs
    simp only [Go.ChangeShapes.lits, List.length_map, List.length_take, List.length_drop] at hs
    refine hend (zs.take len) (Go.Ev.Tab.bytes_of fun n hn => hwf n (List.mem_of_mem_take hn)) (Go.Ev.ints_rep hle ?_ hall hcell)
    unfold Go.Ev.big
    omega

theorem over : Rows.waitsAriseRow.holds Try.pinned (OpenSpec.ofChange Rows.waitsAriseSpec) :=
  OpenClaim.holds_of_wide 4 Try.f4 rfl rfl rfl rfl rfl rfl rfl ⟨rfl, rfl, rfl, rfl, rfl⟩ rfl rfl rfl rfl rfl (by kernel_rfl) Try.func4 (by kernel_rfl)
    (of_decide_eq_true (by kernel_rfl)) (by unfold Func.isWrapper; first | (rw [if_pos (by decide +kernel)]; kernel_rfl) | (rw [if_neg (by decide +kernel)]; exact ⟨rfl, rfl⟩))
    (fun os started H enc _ => lifted os started H enc)

end Go.Proofs.Ytniigndkhlhlcaa.WaitsArise

namespace Go.Proofs.Ytniigndkhlhlcaa
theorem waitsArise_holds : Rows.WaitsAriseSaid := WaitsArise.over
#print axioms waitsArise_holds
end Go.Proofs.Ytniigndkhlhlcaa
