import Derived.Test.YtniigndkhlhlcaaP07
set_option linter.all false
/- Contracts of searches with a predicate, and of what leaves some out. Printed by gen/l4.py. Own work. -/
set_option maxRecDepth 100000
set_option maxHeartbeats 1000000
set_option linter.unusedVariables false
namespace Go.Ev.Tab
open Go Go.Ev.X Go.Proofs

/-! ### the first that fits -/
def idxP {α : Type} (p : α → Bool) : List α → Nat → Option Nat
  | [], _ => none
  | g :: r, n => bif p g then some n else idxP p r (n + 1)
theorem idxP_bnd {α : Type} (p : α → Bool) : ∀ (l : List α) (n j : Nat), idxP p l n = some j → n ≤ j ∧ j < n + l.length
  | [], n, j, h => by simp [idxP] at h
  | g :: r, n, j, h => by
    simp only [idxP] at h
    cases hc : p g with
    | true => rw [hc] at h; cases h; exact ⟨Nat.le_refl _, by simp⟩
    | false => rw [hc] at h; have := idxP_bnd p r (n + 1) j h; simp only [List.length_cons]; omega
def idxI {α : Type} (p : α → Bool) (xs : List α) : Int := match idxP p xs 0 with | some j => (j : Nat) | none => -1
/-- What is kept, in place: the row, and how many. -/
def dfN {α : Type} (p : α → Bool) : Nat → List α → Nat → Nat → List α × Nat
  | 0, ys, i, _ => (ys, i)
  | n + 1, ys, i, j => match ys[j]? with
    | some y => bif p y then dfN p n ys i (j + 1) else dfN p n (ys.set i y) (i + 1) (j + 1)
    | none => (ys, i)
theorem dfN_len {α : Type} (p : α → Bool) : ∀ (n : Nat) (ys : List α) (i j : Nat), (dfN p n ys i j).1.length = ys.length
  | 0, ys, i, j => rfl
  | n + 1, ys, i, j => by
    rw [dfN]
    split
    · rename_i y _
      cases p y with
      | true => exact dfN_len p n ys i (j + 1)
      | false => rw [cond_false, dfN_len p n]; simp
    · rfl
theorem dfN_le {α : Type} (p : α → Bool) : ∀ (n : Nat) (ys : List α) (i j : Nat), i ≤ j → j ≤ ys.length → (dfN p n ys i j).2 ≤ ys.length
  | 0, ys, i, j, h, h' => by simp only [dfN]; omega
  | n + 1, ys, i, j, h, h' => by
    rw [dfN]
    split
    · rename_i y hy
      have hj : j < ys.length := (List.getElem?_eq_some_iff.mp hy).1
      cases p y with
      | true => exact dfN_le p n ys i (j + 1) (by omega) (by omega)
      | false => rw [cond_false]; exact Nat.le_trans (dfN_le p n _ (i + 1) (j + 1) (by omega) (by simp; omega)) (by simp)
    · simp only; omega
/-- The row keeps what was kept before, and gets the rest's. -/
theorem dfN_take {α : Type} (p : α → Bool) : ∀ (n : Nat) (ys : List α) (i j : Nat), i ≤ j → ys.length ≤ j + n → (dfN p n ys i j).1.take (dfN p n ys i j).2 = ys.take i ++ (ys.drop j).filter (fun y => !p y)
  | 0, ys, i, j, h, h' => by
    simp only [dfN]
    rw [List.drop_eq_nil_of_le (by omega)]
    simp
  | n + 1, ys, i, j, h, h' => by
    rw [dfN]
    split
    · rename_i y hy
      obtain ⟨hj, hy⟩ := List.getElem?_eq_some_iff.mp hy
      rw [List.drop_eq_getElem_cons hj, hy]
      cases hp : p y with
      | true =>
        rw [cond_true, dfN_take p n ys i (j + 1) (by omega) (by omega)]
        simp [hp]
      | false =>
        rw [cond_false, dfN_take p n _ (i + 1) (j + 1) (by omega) (by simp; omega)]
        have h1 : (ys.set i y).take (i + 1) = ys.take i ++ [y] := by
          rw [List.take_set, List.take_succ_eq_append_getElem (by omega), List.set_append_right _ _ (by simp; omega)]
          simp [show i - min i ys.length = 0 by omega]
        have h2 : (ys.set i y).drop (j + 1) = ys.drop (j + 1) := List.drop_set_of_lt (by omega)
        rw [h1, h2]
        simp [hp]
    · rename_i hn
      have := List.getElem?_eq_none_iff.mp hn
      rw [List.drop_eq_nil_of_le this]
      simp
theorem idxP_take {α : Type} (p : α → Bool) : ∀ (xs : List α) (n j : Nat), idxP p xs n = some j → xs.take (j - n) = (xs.take (j - n)).filter (fun y => !p y) ∧ (xs.drop (j - n)).filter (fun y => !p y) = (xs.drop (j - n + 1)).filter (fun y => !p y)
  | [], n, j, h => by simp [idxP] at h
  | g :: r, n, j, h => by
    simp only [idxP] at h
    cases hc : p g with
    | true => rw [hc] at h; cases h; simp [hc]
    | false =>
      rw [hc] at h
      have hb := (idxP_bnd p r (n + 1) j h).1
      obtain ⟨h1, h2⟩ := idxP_take p r (n + 1) j h
      obtain ⟨q, hq⟩ : ∃ q, j - n = q + 1 := ⟨j - n - 1, by omega⟩
      rw [show j - (n + 1) = q by omega] at h1 h2
      rw [hq]
      simp only [List.take_succ_cons, List.filter_cons, hc, Bool.not_false, if_true, List.drop_succ_cons]
      exact ⟨by rw [← h1], h2⟩
theorem idxP_none {α : Type} (p : α → Bool) : ∀ (xs : List α) (n : Nat), idxP p xs n = none → xs.filter (fun y => !p y) = xs
  | [], n, h => rfl
  | g :: r, n, h => by
    simp only [idxP] at h
    cases hc : p g with
    | true => rw [hc] at h; cases h
    | false => rw [hc] at h; simp [hc, idxP_none p r (n + 1) h]
theorem df_filter {α : Type} (p : α → Bool) (xs : List α) (i n : Nat) (h : idxP p xs 0 = some i) (hn : xs.length ≤ i + 1 + n) : (dfN p n xs i (i + 1)).1.take (dfN p n xs i (i + 1)).2 = xs.filter (fun y => !p y) := by
  rw [dfN_take p n xs i (i + 1) (by omega) hn]
  obtain ⟨h1, h2⟩ := idxP_take p xs 0 i h
  rw [Nat.sub_zero] at h1 h2
  rw [← h2, h1, ← List.filter_append, List.take_append_drop]
theorem CallOK.weakenD {P : Program} {f : FuncId} {q : List AV → Mem → AK → R} (h : ∀ args m k r, q args m k = some r → ∃ p, CallOK P f p ∧ p args m k = some r) : CallOK P f q := by
  intro ok μ m w args vs k r hS hx hq
  obtain ⟨p, hp, h'⟩ := h args m k r hq
  exact hp hS hx h'
theorem int_last {a b : Nat} (h : AV.one (.int .i64 (a : Nat)) = AV.one (.int .i64 (b : Nat))) : a = b := Int.ofNat.inj (av_int_inj h)
theorem getD_nth' {α : Type} (xs : List α) (i : Nat) (d : α) (h : i < xs.length) : xs.getD i d = xs[i] := by simp [List.getD_eq_getElem?_getD, h]
theorem arr_eq {k : AK} {v : AV} {i : Nat} {o : Obj} {b : Obj} {j : Nat} {τ : Ty} {x y : List τ.El} {r : AV × Mem} (h : k v [(i, o), (1, b), (j, .arr τ y false)] = some r) (e : x = y) : k v [(i, o), (1, b), (j, .arr τ x false)] = some r := by subst e; exact h
theorem arr_eq0 {k : AK} {v : AV} {i : Nat} {o : Obj} {j : Nat} {τ : Ty} {x y : List τ.El} {r : AV × Mem} (h : k v [(i, o), (j, .arr τ y false)] = some r) (e : x = y) : k v [(i, o), (j, .arr τ x false)] = some r := by subst e; exact h
theorem arr_eq2 {k : AK} {v : AV} {i : Nat} {o : Obj} {b c : Obj} {j : Nat} {τ : Ty} {x y : List τ.El} {r : AV × Mem} (h : k v [(i, o), (1, b), (2, c), (j, .arr τ y false)] = some r) (e : x = y) : k v [(i, o), (1, b), (2, c), (j, .arr τ x false)] = some r := by subst e; exact h

/-! ### locks.Release$1 -/
noncomputable def qTx : Int → GG → Bool := hide fun e x => x.1 == e
theorem qTx_eq (e : Int) (x : GG) : qTx e x = (x.1 == e) := by unfold qTx; rw [hide_eq]
noncomputable def pTx : List AV → Mem → AK → R := fun args m k =>
  match args, m with
  | [.val (.agg [.int .i64 a, .int .i64 b, .int .i64 c, .int .i64 d]), .val (.one (.ptr 0 0 none))], [(0, .box false [.int .i64 t])] => k (.one (.bool (qTx t (a, (b, c), d)))) [(0, .box false [.int .i64 t])]
  | _, _ => none
theorem pTx_ok : COK Try.prog 28 pTx := by
  refine ⟨CallOK.weaken (fn_ok (x := fx28) (H := []) (L := []) rfl rfl trivial (by kernel_rfl) trivial).ok fun args m k r h => ?_⟩
  unfold pTx at h
  split at h
  · refine Eq.trans ?_ h
    conv => lhs; whnf
    repeat' ((first | split | ((conv => lhs; arg 3; whnf); split)) <;> first | (exfalso; rename_i hx; first | (simp (disch := omega) [leavesIds, V.leaves, Leaf.ids, mem?, nbeq, Ty.width, wrap_id, View.lenN, View.off, View.len_eq, sees_tail, sees_sub, rec_k, tn1, tn2, tn3, tn4, tn5, tn6] at hx; done) | (simp (disch := omega) [leavesIds, V.leaves, Leaf.ids, mem?, nbeq, Ty.width, wrap_id, View.lenN, View.off, View.len_eq, sees_tail, sees_sub, rec_k, tn1, tn2, tn3, tn4, tn5, tn6] at hx; omega) | (refine absurd (hx.symm.trans ?_) Bool.false_ne_true; (try simp only [Bool.and_eq_true, decide_eq_true_eq]); (try simp (disch := omega) [leavesIds, V.leaves, Leaf.ids, mem?, nbeq, Ty.width, wrap_id, View.lenN, View.off, View.len_eq, sees_tail, sees_sub, rec_k, tn1, tn2, tn3, tn4, tn5, tn6]); (try omega); done) | omega) | (rename_i he; cases he; conv => lhs; whnf) | (conv => lhs; whnf))
    all_goals exact kbool (by rewrite [qTx_eq]; first | rfl | (rw [Bool.eq_iff_iff]; simp_all [beq_pair, beq_int]; done) | (simp_all [beq_pair, beq_int]; done) | (rw [Bool.eq_iff_iff]; simp_all [beq_pair, beq_int]; omega))
  · cases h

/-! #### the first that fits, in a list of the call's own -/
noncomputable def ioTxL (xs : List GG) (t : Int) := loopP (α := Nat) (fun i => [refA 0, .one (.fn 28 [] [1]), .one (.int .i64 xs.length), .one (.int .i64 i)]) (fun _ => (0, .arr G xs false) :: [(1, .box false [.int .i64 t])]) (fun _ => xs.length ≤ 1048576)
  (fun i K => match idxP (qTx t) (xs.drop i) i with | some j => K.ret [.one (.int .i64 (j : Nat))] ((0, .arr G xs false) :: [(1, .box false [.int .i64 t])]) | none => K.exit 0 [] ((0, .arr G xs false) :: [(1, .box false [.int .i64 t])]))
theorem ioTxL_ok (xs : List GG) (t : Int) : LoopOK (rc [(28, pTx)] [(2, ioTxL xs t)] fx44) (loopB 2 (codeOf fx44)) (ioTxL xs t) := by
  refine loopP_ok (fun x y h _ => by simp only [List.cons.injEq] at h; exact int_last h.2.2.2.1) (fun i => xs.length - i) ?_
  intro i K r N hb hN hf
  try dsimp only at hb
  try dsimp only at hN
  try dsimp only at hf
  rcases Nat.lt_or_ge i xs.length with h | h
  · have e1 := lt_t h
    have e2 := ixr_t (a := G.width) (b := 4) rfl h
    have e3 := ixl_t (a := G.width) (b := G.width) rfl h
    rw [drop_nth xs i h, idxP] at hf
    conv => lhs; whnf
    rw [e1]
    conv => lhs; whnf
    rw [e2, off_to]
    conv => lhs; whnf
    rw [e3]
    conv => lhs; whnf
    rw [getD_nth' xs i _ h]
    split
    · rename_i h0
      have h0 : qTx t xs[i] = true := h0
      rw [h0] at hf
      conv => lhs; whnf
      exact hf
    · rename_i h0
      have h0 : qTx t xs[i] = false := h0
      rw [h0] at hf
      conv => lhs; whnf
      rw [succ_w (by omega)]
      exact (hN (i + 1) hb (by omega)).trans hf
  · rw [List.drop_eq_nil_of_le h, idxP] at hf
    conv => lhs; whnf
    rw [lt_f h]
    conv => lhs; whnf
    exact hf
noncomputable def pioTx : List AV → Mem → AK → R := fun args m k =>
  match args, m with
  | [.val (.one (.ref 0 (.tail 0) none)), .val (.one (.fn 28 [] [1]))], (0, .arr σ xs false) :: [(1, .box false [.int .i64 t])] =>
    if h : σ = G then gd (decide (xs.length ≤ 1048576)) (k (.one (.int .i64 (idxI (qTx t) (h ▸ xs : List (G).El)))) ((0, .arr σ xs false) :: [(1, .box false [.int .i64 t])])) else none
  | _, _ => none
theorem pioTx_ok : COK Try.prog 44 pioTx := by
  refine ⟨CallOK.weakenD fun args m k r h => ?_⟩
  unfold pioTx at h
  split at h
  · rename_i σ xs t
    split at h
    · rename_i e
      subst e
      obtain ⟨hb, h⟩ := gd_some.mp h
      simp only [decide_eq_true_eq] at hb
      refine ⟨_, (fn_ok (x := fx44) (H := [(28, pTx)]) (L := [(2, ioTxL xs t)]) rfl rfl ⟨pTx_ok, trivial⟩ (by kernel_rfl) ⟨ioTxL_ok xs t, trivial⟩).ok, ?_⟩
      conv => lhs; whnf
      refine (loopP_eq (fun x y h _ => by simp only [List.cons.injEq] at h; exact int_last h.2.2.2.1) (x := 0) hb _).trans ?_
      dsimp only
      rw [List.drop_zero]
      simp only [idxI] at h
      cases hi : idxP (qTx t) xs 0 with
      | none =>
        rw [hi] at h
        conv => lhs; whnf
        exact h
      | some j =>
        rw [hi] at h
        conv => lhs; whnf
        exact h
    · cases h
  · cases h

/-! #### the others, in place -/
structure DSTx where
  ys : List GG
  i : Nat
  j : Nat
noncomputable def dfTxL (t : Int) := loopP (α := DSTx) (fun x => [refA 0, .one (.fn 28 [] [1]), .one (.int .i64 x.i), .one (.int .i64 x.j)]) (fun x => (0, .arr G x.ys false) :: [(1, .box false [.int .i64 t])]) (fun x => x.ys.length ≤ 1048576 ∧ x.i < x.j)
  (fun x K => K.exit 0 [refA 0, .one (.int .i64 ((dfN (qTx t) (x.ys.length - x.j) x.ys x.i x.j).2 : Nat))] ((0, .arr G (dfN (qTx t) (x.ys.length - x.j) x.ys x.i x.j).1 false) :: [(1, .box false [.int .i64 t])]))
theorem dfTxL_inj (t : Int) (x y : DSTx) (h : [refA 0, .one (.fn 28 [] [1]), .one (.int .i64 x.i), .one (.int .i64 x.j)] = [refA 0, .one (.fn 28 [] [1]), .one (.int .i64 y.i), .one (.int .i64 y.j)])
    (h' : (0, Obj.arr G x.ys false) :: [(1, .box false [.int .i64 t])] = (0, Obj.arr G y.ys false) :: [(1, .box false [.int .i64 t])]) : x = y := by
  obtain ⟨a, b, c⟩ := x
  obtain ⟨a', b', c'⟩ := y
  simp only [List.cons.injEq] at h
  have h1 := int_last h.2.2.1
  have h2 := int_last h.2.2.2.1
  have h3 : a = a' := by cases h'; rfl
  try dsimp only at h1
  try dsimp only at h2
  rw [h1, h2, h3]
theorem dfTxL_ok (t : Int) : LoopOK (rco [retKey] [(28, pTx), (44, pioTx)] [(5, dfTxL t)] fx50) (loopB 5 (codeOf fx50)) (dfTxL t) := by
  refine loopP_ok (dfTxL_inj t) (fun x => x.ys.length - x.j) ?_
  rintro ⟨xs, i, j⟩ K r N ⟨hb, hij⟩ hN hf
  replace hb : xs.length ≤ 1048576 := hb
  replace hij : i < j := hij
  try dsimp only at hN
  try dsimp only at hf
  rcases Nat.lt_or_ge j xs.length with h | h
  · have e1 : decide ((j : Int) < ((View.tail 0).len xs : Nat)) = true := lt_t h
    have e2 := ixr_t (a := G.width) (b := 4) rfl h
    have e3 := ixl_t (a := G.width) (b := G.width) rfl h
    have e4 := ixr_t (a := G.width) (b := 4) rfl (show i < xs.length by omega)
    have e5 : (Nat.beq G.width G.width && decide (i < xs.length) && !mem? 0 []) = true := by rw [ixl_t rfl (show i < xs.length by omega)]; rfl
    have hs : dfN (qTx t) (xs.length - j) xs i j = bif qTx t xs[j] then dfN (qTx t) (xs.length - (j + 1)) xs i (j + 1) else dfN (qTx t) (xs.length - (j + 1)) (xs.set i xs[j]) (i + 1) (j + 1) := by
      obtain ⟨n, hn⟩ : ∃ n, xs.length - j = n + 1 := ⟨xs.length - j - 1, by omega⟩
      rw [hn, dfN, List.getElem?_eq_getElem h, show xs.length - (j + 1) = n by omega]
    rw [hs] at hf
    conv => lhs; whnf
    rw [e1]
    conv => lhs; whnf
    rw [e2, off_to]
    conv => lhs; whnf
    rw [e3]
    conv => lhs; whnf
    rw [getD_nth' xs j _ h]
    split
    · rename_i h0
      have h0 : (!qTx t xs[j]) = true := h0
      rw [show qTx t xs[j] = false by simpa using h0] at hf
      conv => lhs; whnf
      rw [e4, off_to]
      conv => lhs; whnf
      split
      rotate_left
      · rename_i hx
        exact tf e5 hx
      conv => lhs; whnf
      rw [succ_w (i := i) (by omega), succ_w (i := j) (by omega)]
      exact (hN ⟨xs.set i xs[j], i + 1, j + 1⟩ ⟨by simpa using hb, by simp only; omega⟩ (by simp only [List.length_set]; omega)).trans (by simpa using hf)
    · rename_i h0
      have h0 : (!qTx t xs[j]) = false := h0
      rw [show qTx t xs[j] = true by simpa using h0] at hf
      conv => lhs; whnf
      rw [succ_w (i := j) (by omega)]
      exact (hN ⟨xs, i, j + 1⟩ ⟨hb, by simp only; omega⟩ (by simp only; omega)).trans hf
  · rw [show xs.length - j = 0 by omega, dfN] at hf
    conv => lhs; whnf
    rw [show decide ((j : Int) < ((View.tail 0).len xs : Nat)) = false from lt_f h]
    conv => lhs; whnf
    exact hf
noncomputable abbrev pdfTxRC (t : Int) : RC := rco [retKey] [(28, pTx), (44, pioTx)] [(5, dfTxL t)] fx50
noncomputable def pdfTx : List AV → Mem → AK → R := fun args m k =>
  match args, m with
  | [.val (.one (.ref 0 (.tail 0) none)), .val (.one (.fn 28 [] [1]))], (0, .arr σ xs false) :: [(1, .box false [.int .i64 t])] =>
    if h : σ = G then gd (decide (xs.length ≤ 1048576)) (k (refA 100000002) ((0, .dead) :: [(1, .box false [.int .i64 t]), (100000002, .arr G ((h ▸ xs : List (G).El).filter fun y => !qTx t y) false)])) else none
  | _, _ => none
theorem pdfTx_ok : COK Try.prog 50 pdfTx := by
  refine ⟨CallOK.weakenD fun args m k r h => ?_⟩
  unfold pdfTx at h
  split at h
  · rename_i σ xs t
    split at h
    · rename_i e
      subst e
      obtain ⟨hb, h⟩ := gd_some.mp h
      simp only [decide_eq_true_eq] at hb
      have h : k (refA 100000002) ((0, .dead) :: [(1, .box false [.int .i64 t]), (100000002, .arr G (xs.filter fun y => !qTx t y) false)]) = some r := h
      refine ⟨_, (fno_ok (x := fx50) (own := [retKey]) (H := [(28, pTx), (44, pioTx)]) (L := [(5, dfTxL t)]) rfl rfl ⟨pTx_ok, pioTx_ok, trivial⟩ (by kernel_rfl) ⟨dfTxL_ok t, trivial⟩).ok, ?_⟩
      cases hi : idxP (qTx t) xs 0 with
      | none =>
        have hI : idxI (qTx t) xs = -1 := by simp only [idxI, hi]
        rw [idxP_none _ xs 0 hi] at h
        conv => lhs; whnf
        rewrite [hI]
        (split <;> first | (exfalso; rename_i hx; first | (simp (disch := omega) [leavesIds, V.leaves, Leaf.ids, mem?, nbeq, Ty.width, wrap_id, View.lenN, View.off, View.len_eq, sees_tail, sees_sub, rec_k, tn1, tn2, tn3, tn4, tn5, tn6] at hx; done) | (simp (disch := omega) [leavesIds, V.leaves, Leaf.ids, mem?, nbeq, Ty.width, wrap_id, View.lenN, View.off, View.len_eq, sees_tail, sees_sub, rec_k, tn1, tn2, tn3, tn4, tn5, tn6] at hx; omega) | (refine absurd (hx.symm.trans ?_) Bool.false_ne_true; (try simp only [Bool.and_eq_true, decide_eq_true_eq]); (try simp (disch := omega) [leavesIds, V.leaves, Leaf.ids, mem?, nbeq, Ty.width, wrap_id, View.lenN, View.off, View.len_eq, sees_tail, sees_sub, rec_k, tn1, tn2, tn3, tn4, tn5, tn6]); (try omega); done) | omega) | (conv => lhs; whnf))
        exact h
      | some i =>
        have hI : idxI (qTx t) xs = (i : Nat) := by simp only [idxI, hi]
        have hb2 := (idxP_bnd _ xs 0 i hi).2
        have e1 := dfN_len (qTx t) (xs.length - (i + 1)) xs i (i + 1)
        have e2 := dfN_le (qTx t) (xs.length - (i + 1)) xs i (i + 1) (by omega) (by omega)
        have e3 := df_filter (qTx t) xs i (xs.length - (i + 1)) hi (by omega)
        conv => lhs; whnf
        rewrite [hI]
        (split <;> first | (exfalso; rename_i hx; first | (simp (disch := omega) [leavesIds, V.leaves, Leaf.ids, mem?, nbeq, Ty.width, wrap_id, View.lenN, View.off, View.len_eq, sees_tail, sees_sub, rec_k, tn1, tn2, tn3, tn4, tn5, tn6] at hx; done) | (simp (disch := omega) [leavesIds, V.leaves, Leaf.ids, mem?, nbeq, Ty.width, wrap_id, View.lenN, View.off, View.len_eq, sees_tail, sees_sub, rec_k, tn1, tn2, tn3, tn4, tn5, tn6] at hx; omega) | (refine absurd (hx.symm.trans ?_) Bool.false_ne_true; (try simp only [Bool.and_eq_true, decide_eq_true_eq]); (try simp (disch := omega) [leavesIds, V.leaves, Leaf.ids, mem?, nbeq, Ty.width, wrap_id, View.lenN, View.off, View.len_eq, sees_tail, sees_sub, rec_k, tn1, tn2, tn3, tn4, tn5, tn6]); (try omega); done) | omega) | (conv => lhs; whnf))
        rewrite [succ_w (i := i) (by omega)]
        refine (loopP_eq (dfTxL_inj t) (x := ⟨xs, i, i + 1⟩) ⟨hb, by simp only; omega⟩ _).trans ?_
        dsimp only
        generalize dfN (qTx t) (xs.length - (i + 1)) xs i (i + 1) = D at *
        obtain ⟨ys, n⟩ := D
        replace e1 : ys.length = xs.length := e1
        replace e2 : n ≤ xs.length := e2
        replace e3 : ys.take n = xs.filter fun y => !qTx t y := e3
        rw [← e3] at h
        conv => lhs; whnf
        repeat' ((first | split | ((conv => lhs; arg 3; whnf); split)) <;> first | (exfalso; rename_i hx; first | (simp (disch := omega) [leavesIds, V.leaves, Leaf.ids, mem?, nbeq, Ty.width, wrap_id, View.lenN, View.off, View.len_eq, sees_tail, sees_sub, rec_k, tn1, tn2, tn3, tn4, tn5, tn6] at hx; done) | (simp (disch := omega) [leavesIds, V.leaves, Leaf.ids, mem?, nbeq, Ty.width, wrap_id, View.lenN, View.off, View.len_eq, sees_tail, sees_sub, rec_k, tn1, tn2, tn3, tn4, tn5, tn6] at hx; omega) | (refine absurd (hx.symm.trans ?_) Bool.false_ne_true; (try simp only [Bool.and_eq_true, decide_eq_true_eq]); (try simp (disch := omega) [leavesIds, V.leaves, Leaf.ids, mem?, nbeq, Ty.width, wrap_id, View.lenN, View.off, View.len_eq, sees_tail, sees_sub, rec_k, tn1, tn2, tn3, tn4, tn5, tn6]); (try omega); done) | omega) | (rename_i he; cases he; conv => lhs; whnf) | (conv => lhs; whnf))
        all_goals (first | refine arr_eq0 h ?_ | refine arr_eq h ?_ | refine arr_eq2 h ?_) <;> (simp (disch := omega) [leavesIds, V.leaves, Leaf.ids, mem?, nbeq, Ty.width, wrap_id, View.lenN, View.off, View.len_eq, sees_tail, sees_sub, rec_k, tn1, tn2, tn3, tn4, tn5, tn6, List.take_append, List.drop_append, List.take_of_length_le, List.drop_of_length_le, e1, List.take_take]; done)
    · cases h
  · cases h

/-! ### locks.Cancel$1 -/
noncomputable def qNo : Unit → GG → Bool := hide fun e x => false
theorem qNo_eq (e : Unit) (x : GG) : qNo e x = (false) := by unfold qNo; rw [hide_eq]
noncomputable def pNo : List AV → Mem → AK → R := fun args m k =>
  match args, m with
  | [.val (.agg [.int .i64 a, .int .i64 b, .int .i64 c, .int .i64 d])], [] => k (.one (.bool (qNo () (a, (b, c), d)))) []
  | _, _ => none
theorem pNo_ok : COK Try.prog 24 pNo := by
  refine ⟨CallOK.weaken (fn_ok (x := fx24) (H := []) (L := []) rfl rfl trivial (by kernel_rfl) trivial).ok fun args m k r h => ?_⟩
  unfold pNo at h
  split at h
  · refine Eq.trans ?_ h
    conv => lhs; whnf
    repeat' ((first | split | ((conv => lhs; arg 3; whnf); split)) <;> first | (exfalso; rename_i hx; first | (simp (disch := omega) [leavesIds, V.leaves, Leaf.ids, mem?, nbeq, Ty.width, wrap_id, View.lenN, View.off, View.len_eq, sees_tail, sees_sub, rec_k, tn1, tn2, tn3, tn4, tn5, tn6] at hx; done) | (simp (disch := omega) [leavesIds, V.leaves, Leaf.ids, mem?, nbeq, Ty.width, wrap_id, View.lenN, View.off, View.len_eq, sees_tail, sees_sub, rec_k, tn1, tn2, tn3, tn4, tn5, tn6] at hx; omega) | (refine absurd (hx.symm.trans ?_) Bool.false_ne_true; (try simp only [Bool.and_eq_true, decide_eq_true_eq]); (try simp (disch := omega) [leavesIds, V.leaves, Leaf.ids, mem?, nbeq, Ty.width, wrap_id, View.lenN, View.off, View.len_eq, sees_tail, sees_sub, rec_k, tn1, tn2, tn3, tn4, tn5, tn6]); (try omega); done) | omega) | (rename_i he; cases he; conv => lhs; whnf) | (conv => lhs; whnf))
    all_goals exact kbool (by rewrite [qNo_eq]; first | rfl | (rw [Bool.eq_iff_iff]; simp_all [beq_pair, beq_int]; done) | (simp_all [beq_pair, beq_int]; done) | (rw [Bool.eq_iff_iff]; simp_all [beq_pair, beq_int]; omega))
  · cases h

/-! #### the first that fits, in a list of the call's own -/
noncomputable def ioNoL (xs : List GG)  := loopP (α := Nat) (fun i => [refA 0, .one (.fn 24 [] []), .one (.int .i64 xs.length), .one (.int .i64 i)]) (fun _ => (0, .arr G xs false) :: []) (fun _ => xs.length ≤ 1048576)
  (fun i K => match idxP (qNo ()) (xs.drop i) i with | some j => K.ret [.one (.int .i64 (j : Nat))] ((0, .arr G xs false) :: []) | none => K.exit 0 [] ((0, .arr G xs false) :: []))
theorem ioNoL_ok (xs : List GG)  : LoopOK (rc [(24, pNo)] [(2, ioNoL xs )] fx44) (loopB 2 (codeOf fx44)) (ioNoL xs ) := by
  refine loopP_ok (fun x y h _ => by simp only [List.cons.injEq] at h; exact int_last h.2.2.2.1) (fun i => xs.length - i) ?_
  intro i K r N hb hN hf
  try dsimp only at hb
  try dsimp only at hN
  try dsimp only at hf
  rcases Nat.lt_or_ge i xs.length with h | h
  · have e1 := lt_t h
    have e2 := ixr_t (a := G.width) (b := 4) rfl h
    have e3 := ixl_t (a := G.width) (b := G.width) rfl h
    rw [drop_nth xs i h, idxP] at hf
    conv => lhs; whnf
    rw [e1]
    conv => lhs; whnf
    rw [e2, off_to]
    conv => lhs; whnf
    rw [e3]
    conv => lhs; whnf
    rw [getD_nth' xs i _ h]
    split
    · rename_i h0
      have h0 : qNo () xs[i] = true := h0
      rw [h0] at hf
      conv => lhs; whnf
      exact hf
    · rename_i h0
      have h0 : qNo () xs[i] = false := h0
      rw [h0] at hf
      conv => lhs; whnf
      rw [succ_w (by omega)]
      exact (hN (i + 1) hb (by omega)).trans hf
  · rw [List.drop_eq_nil_of_le h, idxP] at hf
    conv => lhs; whnf
    rw [lt_f h]
    conv => lhs; whnf
    exact hf
noncomputable def pioNo : List AV → Mem → AK → R := fun args m k =>
  match args, m with
  | [.val (.one (.ref 0 (.tail 0) none)), .val (.one (.fn 24 [] []))], (0, .arr σ xs false) :: [] =>
    if h : σ = G then gd (decide (xs.length ≤ 1048576)) (k (.one (.int .i64 (idxI (qNo ()) (h ▸ xs : List (G).El)))) ((0, .arr σ xs false) :: [])) else none
  | _, _ => none
theorem pioNo_ok : COK Try.prog 44 pioNo := by
  refine ⟨CallOK.weakenD fun args m k r h => ?_⟩
  unfold pioNo at h
  split at h
  · rename_i σ xs 
    split at h
    · rename_i e
      subst e
      obtain ⟨hb, h⟩ := gd_some.mp h
      simp only [decide_eq_true_eq] at hb
      refine ⟨_, (fn_ok (x := fx44) (H := [(24, pNo)]) (L := [(2, ioNoL xs )]) rfl rfl ⟨pNo_ok, trivial⟩ (by kernel_rfl) ⟨ioNoL_ok xs , trivial⟩).ok, ?_⟩
      conv => lhs; whnf
      refine (loopP_eq (fun x y h _ => by simp only [List.cons.injEq] at h; exact int_last h.2.2.2.1) (x := 0) hb _).trans ?_
      dsimp only
      rw [List.drop_zero]
      simp only [idxI] at h
      cases hi : idxP (qNo ()) xs 0 with
      | none =>
        rw [hi] at h
        conv => lhs; whnf
        exact h
      | some j =>
        rw [hi] at h
        conv => lhs; whnf
        exact h
    · cases h
  · cases h

/-! #### the others, in place -/
structure DSNo where
  ys : List GG
  i : Nat
  j : Nat
noncomputable def dfNoL  := loopP (α := DSNo) (fun x => [refA 0, .one (.fn 24 [] []), .one (.int .i64 x.i), .one (.int .i64 x.j)]) (fun x => (0, .arr G x.ys false) :: []) (fun x => x.ys.length ≤ 1048576 ∧ x.i < x.j)
  (fun x K => K.exit 0 [refA 0, .one (.int .i64 ((dfN (qNo ()) (x.ys.length - x.j) x.ys x.i x.j).2 : Nat))] ((0, .arr G (dfN (qNo ()) (x.ys.length - x.j) x.ys x.i x.j).1 false) :: []))
theorem dfNoL_inj  (x y : DSNo) (h : [refA 0, .one (.fn 24 [] []), .one (.int .i64 x.i), .one (.int .i64 x.j)] = [refA 0, .one (.fn 24 [] []), .one (.int .i64 y.i), .one (.int .i64 y.j)])
    (h' : (0, Obj.arr G x.ys false) :: [] = (0, Obj.arr G y.ys false) :: []) : x = y := by
  obtain ⟨a, b, c⟩ := x
  obtain ⟨a', b', c'⟩ := y
  simp only [List.cons.injEq] at h
  have h1 := int_last h.2.2.1
  have h2 := int_last h.2.2.2.1
  have h3 : a = a' := by cases h'; rfl
  try dsimp only at h1
  try dsimp only at h2
  rw [h1, h2, h3]
theorem dfNoL_ok  : LoopOK (rco [retKey] [(24, pNo), (44, pioNo)] [(5, dfNoL )] fx50) (loopB 5 (codeOf fx50)) (dfNoL ) := by
  refine loopP_ok (dfNoL_inj ) (fun x => x.ys.length - x.j) ?_
  rintro ⟨xs, i, j⟩ K r N ⟨hb, hij⟩ hN hf
  replace hb : xs.length ≤ 1048576 := hb
  replace hij : i < j := hij
  try dsimp only at hN
  try dsimp only at hf
  rcases Nat.lt_or_ge j xs.length with h | h
  · have e1 : decide ((j : Int) < ((View.tail 0).len xs : Nat)) = true := lt_t h
    have e2 := ixr_t (a := G.width) (b := 4) rfl h
    have e3 := ixl_t (a := G.width) (b := G.width) rfl h
    have e4 := ixr_t (a := G.width) (b := 4) rfl (show i < xs.length by omega)
    have e5 : (Nat.beq G.width G.width && decide (i < xs.length) && !mem? 0 []) = true := by rw [ixl_t rfl (show i < xs.length by omega)]; rfl
    have hs : dfN (qNo ()) (xs.length - j) xs i j = bif qNo () xs[j] then dfN (qNo ()) (xs.length - (j + 1)) xs i (j + 1) else dfN (qNo ()) (xs.length - (j + 1)) (xs.set i xs[j]) (i + 1) (j + 1) := by
      obtain ⟨n, hn⟩ : ∃ n, xs.length - j = n + 1 := ⟨xs.length - j - 1, by omega⟩
      rw [hn, dfN, List.getElem?_eq_getElem h, show xs.length - (j + 1) = n by omega]
    rw [hs] at hf
    conv => lhs; whnf
    rw [e1]
    conv => lhs; whnf
    rw [e2, off_to]
    conv => lhs; whnf
    rw [e3]
    conv => lhs; whnf
    rw [getD_nth' xs j _ h]
    split
    · rename_i h0
      have h0 : (!qNo () xs[j]) = true := h0
      rw [show qNo () xs[j] = false by simpa using h0] at hf
      conv => lhs; whnf
      rw [e4, off_to]
      conv => lhs; whnf
      split
      rotate_left
      · rename_i hx
        exact tf e5 hx
      conv => lhs; whnf
      rw [succ_w (i := i) (by omega), succ_w (i := j) (by omega)]
      exact (hN ⟨xs.set i xs[j], i + 1, j + 1⟩ ⟨by simpa using hb, by simp only; omega⟩ (by simp only [List.length_set]; omega)).trans (by simpa using hf)
    · rename_i h0
      have h0 : (!qNo () xs[j]) = false := h0
      rw [show qNo () xs[j] = true by simpa using h0] at hf
      conv => lhs; whnf
      rw [succ_w (i := j) (by omega)]
      exact (hN ⟨xs, i, j + 1⟩ ⟨hb, by simp only; omega⟩ (by simp only; omega)).trans hf
  · rw [show xs.length - j = 0 by omega, dfN] at hf
    conv => lhs; whnf
    rw [show decide ((j : Int) < ((View.tail 0).len xs : Nat)) = false from lt_f h]
    conv => lhs; whnf
    exact hf
noncomputable abbrev pdfNoRC  : RC := rco [retKey] [(24, pNo), (44, pioNo)] [(5, dfNoL )] fx50
noncomputable def pdfNo : List AV → Mem → AK → R := fun args m k =>
  match args, m with
  | [.val (.one (.ref 0 (.tail 0) none)), .val (.one (.fn 24 [] []))], (0, .arr σ xs false) :: [] =>
    if h : σ = G then gd (decide (xs.length ≤ 1048576)) (k (refA 100000001) ((0, .dead) :: [(100000001, .arr G ((h ▸ xs : List (G).El).filter fun y => !qNo () y) false)])) else none
  | _, _ => none
theorem pdfNo_ok : COK Try.prog 50 pdfNo := by
  refine ⟨CallOK.weakenD fun args m k r h => ?_⟩
  unfold pdfNo at h
  split at h
  · rename_i σ xs 
    split at h
    · rename_i e
      subst e
      obtain ⟨hb, h⟩ := gd_some.mp h
      simp only [decide_eq_true_eq] at hb
      have h : k (refA 100000001) ((0, .dead) :: [(100000001, .arr G (xs.filter fun y => !qNo () y) false)]) = some r := h
      refine ⟨_, (fno_ok (x := fx50) (own := [retKey]) (H := [(24, pNo), (44, pioNo)]) (L := [(5, dfNoL )]) rfl rfl ⟨pNo_ok, pioNo_ok, trivial⟩ (by kernel_rfl) ⟨dfNoL_ok , trivial⟩).ok, ?_⟩
      cases hi : idxP (qNo ()) xs 0 with
      | none =>
        have hI : idxI (qNo ()) xs = -1 := by simp only [idxI, hi]
        rw [idxP_none _ xs 0 hi] at h
        conv => lhs; whnf
        rewrite [hI]
        (split <;> first | (exfalso; rename_i hx; first | (simp (disch := omega) [leavesIds, V.leaves, Leaf.ids, mem?, nbeq, Ty.width, wrap_id, View.lenN, View.off, View.len_eq, sees_tail, sees_sub, rec_k, tn1, tn2, tn3, tn4, tn5, tn6] at hx; done) | (simp (disch := omega) [leavesIds, V.leaves, Leaf.ids, mem?, nbeq, Ty.width, wrap_id, View.lenN, View.off, View.len_eq, sees_tail, sees_sub, rec_k, tn1, tn2, tn3, tn4, tn5, tn6] at hx; omega) | (refine absurd (hx.symm.trans ?_) Bool.false_ne_true; (try simp only [Bool.and_eq_true, decide_eq_true_eq]); (try simp (disch := omega) [leavesIds, V.leaves, Leaf.ids, mem?, nbeq, Ty.width, wrap_id, View.lenN, View.off, View.len_eq, sees_tail, sees_sub, rec_k, tn1, tn2, tn3, tn4, tn5, tn6]); (try omega); done) | omega) | (conv => lhs; whnf))
        exact h
      | some i =>
        have hI : idxI (qNo ()) xs = (i : Nat) := by simp only [idxI, hi]
        have hb2 := (idxP_bnd _ xs 0 i hi).2
        have e1 := dfN_len (qNo ()) (xs.length - (i + 1)) xs i (i + 1)
        have e2 := dfN_le (qNo ()) (xs.length - (i + 1)) xs i (i + 1) (by omega) (by omega)
        have e3 := df_filter (qNo ()) xs i (xs.length - (i + 1)) hi (by omega)
        conv => lhs; whnf
        rewrite [hI]
        (split <;> first | (exfalso; rename_i hx; first | (simp (disch := omega) [leavesIds, V.leaves, Leaf.ids, mem?, nbeq, Ty.width, wrap_id, View.lenN, View.off, View.len_eq, sees_tail, sees_sub, rec_k, tn1, tn2, tn3, tn4, tn5, tn6] at hx; done) | (simp (disch := omega) [leavesIds, V.leaves, Leaf.ids, mem?, nbeq, Ty.width, wrap_id, View.lenN, View.off, View.len_eq, sees_tail, sees_sub, rec_k, tn1, tn2, tn3, tn4, tn5, tn6] at hx; omega) | (refine absurd (hx.symm.trans ?_) Bool.false_ne_true; (try simp only [Bool.and_eq_true, decide_eq_true_eq]); (try simp (disch := omega) [leavesIds, V.leaves, Leaf.ids, mem?, nbeq, Ty.width, wrap_id, View.lenN, View.off, View.len_eq, sees_tail, sees_sub, rec_k, tn1, tn2, tn3, tn4, tn5, tn6]); (try omega); done) | omega) | (conv => lhs; whnf))
        rewrite [succ_w (i := i) (by omega)]
        refine (loopP_eq (dfNoL_inj ) (x := ⟨xs, i, i + 1⟩) ⟨hb, by simp only; omega⟩ _).trans ?_
        dsimp only
        generalize dfN (qNo ()) (xs.length - (i + 1)) xs i (i + 1) = D at *
        obtain ⟨ys, n⟩ := D
        replace e1 : ys.length = xs.length := e1
        replace e2 : n ≤ xs.length := e2
        replace e3 : ys.take n = xs.filter fun y => !qNo () y := e3
        rw [← e3] at h
        conv => lhs; whnf
        repeat' ((first | split | ((conv => lhs; arg 3; whnf); split)) <;> first | (exfalso; rename_i hx; first | (simp (disch := omega) [leavesIds, V.leaves, Leaf.ids, mem?, nbeq, Ty.width, wrap_id, View.lenN, View.off, View.len_eq, sees_tail, sees_sub, rec_k, tn1, tn2, tn3, tn4, tn5, tn6] at hx; done) | (simp (disch := omega) [leavesIds, V.leaves, Leaf.ids, mem?, nbeq, Ty.width, wrap_id, View.lenN, View.off, View.len_eq, sees_tail, sees_sub, rec_k, tn1, tn2, tn3, tn4, tn5, tn6] at hx; omega) | (refine absurd (hx.symm.trans ?_) Bool.false_ne_true; (try simp only [Bool.and_eq_true, decide_eq_true_eq]); (try simp (disch := omega) [leavesIds, V.leaves, Leaf.ids, mem?, nbeq, Ty.width, wrap_id, View.lenN, View.off, View.len_eq, sees_tail, sees_sub, rec_k, tn1, tn2, tn3, tn4, tn5, tn6]); (try omega); done) | omega) | (rename_i he; cases he; conv => lhs; whnf) | (conv => lhs; whnf))
        all_goals (first | refine arr_eq0 h ?_ | refine arr_eq h ?_ | refine arr_eq2 h ?_) <;> (simp (disch := omega) [leavesIds, V.leaves, Leaf.ids, mem?, nbeq, Ty.width, wrap_id, View.lenN, View.off, View.len_eq, sees_tail, sees_sub, rec_k, tn1, tn2, tn3, tn4, tn5, tn6, List.take_append, List.drop_append, List.take_of_length_le, List.drop_of_length_le, e1, List.take_take]; done)
    · cases h
  · cases h

/-! ### locks.Cancel$2 -/
noncomputable def qTxC : Int → GG → Bool := hide fun e x => x.1 == e
theorem qTxC_eq (e : Int) (x : GG) : qTxC e x = (x.1 == e) := by unfold qTxC; rw [hide_eq]
noncomputable def pTxC : List AV → Mem → AK → R := fun args m k =>
  match args, m with
  | [.val (.agg [.int .i64 a, .int .i64 b, .int .i64 c, .int .i64 d]), .val (.one (.ptr 0 0 none))], [(0, .box false [.int .i64 t])] => k (.one (.bool (qTxC t (a, (b, c), d)))) [(0, .box false [.int .i64 t])]
  | _, _ => none
theorem pTxC_ok : COK Try.prog 25 pTxC := by
  refine ⟨CallOK.weaken (fn_ok (x := fx25) (H := []) (L := []) rfl rfl trivial (by kernel_rfl) trivial).ok fun args m k r h => ?_⟩
  unfold pTxC at h
  split at h
  · refine Eq.trans ?_ h
    conv => lhs; whnf
    repeat' ((first | split | ((conv => lhs; arg 3; whnf); split)) <;> first | (exfalso; rename_i hx; first | (simp (disch := omega) [leavesIds, V.leaves, Leaf.ids, mem?, nbeq, Ty.width, wrap_id, View.lenN, View.off, View.len_eq, sees_tail, sees_sub, rec_k, tn1, tn2, tn3, tn4, tn5, tn6] at hx; done) | (simp (disch := omega) [leavesIds, V.leaves, Leaf.ids, mem?, nbeq, Ty.width, wrap_id, View.lenN, View.off, View.len_eq, sees_tail, sees_sub, rec_k, tn1, tn2, tn3, tn4, tn5, tn6] at hx; omega) | (refine absurd (hx.symm.trans ?_) Bool.false_ne_true; (try simp only [Bool.and_eq_true, decide_eq_true_eq]); (try simp (disch := omega) [leavesIds, V.leaves, Leaf.ids, mem?, nbeq, Ty.width, wrap_id, View.lenN, View.off, View.len_eq, sees_tail, sees_sub, rec_k, tn1, tn2, tn3, tn4, tn5, tn6]); (try omega); done) | omega) | (rename_i he; cases he; conv => lhs; whnf) | (conv => lhs; whnf))
    all_goals exact kbool (by rewrite [qTxC_eq]; first | rfl | (rw [Bool.eq_iff_iff]; simp_all [beq_pair, beq_int]; done) | (simp_all [beq_pair, beq_int]; done) | (rw [Bool.eq_iff_iff]; simp_all [beq_pair, beq_int]; omega))
  · cases h

/-! #### the first that fits, in a list of the call's own -/
noncomputable def ioTxCL (xs : List GG) (t : Int) := loopP (α := Nat) (fun i => [refA 0, .one (.fn 25 [] [1]), .one (.int .i64 xs.length), .one (.int .i64 i)]) (fun _ => (0, .arr G xs false) :: [(1, .box false [.int .i64 t])]) (fun _ => xs.length ≤ 1048576)
  (fun i K => match idxP (qTxC t) (xs.drop i) i with | some j => K.ret [.one (.int .i64 (j : Nat))] ((0, .arr G xs false) :: [(1, .box false [.int .i64 t])]) | none => K.exit 0 [] ((0, .arr G xs false) :: [(1, .box false [.int .i64 t])]))
theorem ioTxCL_ok (xs : List GG) (t : Int) : LoopOK (rc [(25, pTxC)] [(2, ioTxCL xs t)] fx44) (loopB 2 (codeOf fx44)) (ioTxCL xs t) := by
  refine loopP_ok (fun x y h _ => by simp only [List.cons.injEq] at h; exact int_last h.2.2.2.1) (fun i => xs.length - i) ?_
  intro i K r N hb hN hf
  try dsimp only at hb
  try dsimp only at hN
  try dsimp only at hf
  rcases Nat.lt_or_ge i xs.length with h | h
  · have e1 := lt_t h
    have e2 := ixr_t (a := G.width) (b := 4) rfl h
    have e3 := ixl_t (a := G.width) (b := G.width) rfl h
    rw [drop_nth xs i h, idxP] at hf
    conv => lhs; whnf
    rw [e1]
    conv => lhs; whnf
    rw [e2, off_to]
    conv => lhs; whnf
    rw [e3]
    conv => lhs; whnf
    rw [getD_nth' xs i _ h]
    split
    · rename_i h0
      have h0 : qTxC t xs[i] = true := h0
      rw [h0] at hf
      conv => lhs; whnf
      exact hf
    · rename_i h0
      have h0 : qTxC t xs[i] = false := h0
      rw [h0] at hf
      conv => lhs; whnf
      rw [succ_w (by omega)]
      exact (hN (i + 1) hb (by omega)).trans hf
  · rw [List.drop_eq_nil_of_le h, idxP] at hf
    conv => lhs; whnf
    rw [lt_f h]
    conv => lhs; whnf
    exact hf
noncomputable def pioTxC : List AV → Mem → AK → R := fun args m k =>
  match args, m with
  | [.val (.one (.ref 0 (.tail 0) none)), .val (.one (.fn 25 [] [1]))], (0, .arr σ xs false) :: [(1, .box false [.int .i64 t])] =>
    if h : σ = G then gd (decide (xs.length ≤ 1048576)) (k (.one (.int .i64 (idxI (qTxC t) (h ▸ xs : List (G).El)))) ((0, .arr σ xs false) :: [(1, .box false [.int .i64 t])])) else none
  | _, _ => none
theorem pioTxC_ok : COK Try.prog 44 pioTxC := by
  refine ⟨CallOK.weakenD fun args m k r h => ?_⟩
  unfold pioTxC at h
  split at h
  · rename_i σ xs t
    split at h
    · rename_i e
      subst e
      obtain ⟨hb, h⟩ := gd_some.mp h
      simp only [decide_eq_true_eq] at hb
      refine ⟨_, (fn_ok (x := fx44) (H := [(25, pTxC)]) (L := [(2, ioTxCL xs t)]) rfl rfl ⟨pTxC_ok, trivial⟩ (by kernel_rfl) ⟨ioTxCL_ok xs t, trivial⟩).ok, ?_⟩
      conv => lhs; whnf
      refine (loopP_eq (fun x y h _ => by simp only [List.cons.injEq] at h; exact int_last h.2.2.2.1) (x := 0) hb _).trans ?_
      dsimp only
      rw [List.drop_zero]
      simp only [idxI] at h
      cases hi : idxP (qTxC t) xs 0 with
      | none =>
        rw [hi] at h
        conv => lhs; whnf
        exact h
      | some j =>
        rw [hi] at h
        conv => lhs; whnf
        exact h
    · cases h
  · cases h

/-! #### the others, in place -/
structure DSTxC where
  ys : List GG
  i : Nat
  j : Nat
noncomputable def dfTxCL (t : Int) := loopP (α := DSTxC) (fun x => [refA 0, .one (.fn 25 [] [1]), .one (.int .i64 x.i), .one (.int .i64 x.j)]) (fun x => (0, .arr G x.ys false) :: [(1, .box false [.int .i64 t])]) (fun x => x.ys.length ≤ 1048576 ∧ x.i < x.j)
  (fun x K => K.exit 0 [refA 0, .one (.int .i64 ((dfN (qTxC t) (x.ys.length - x.j) x.ys x.i x.j).2 : Nat))] ((0, .arr G (dfN (qTxC t) (x.ys.length - x.j) x.ys x.i x.j).1 false) :: [(1, .box false [.int .i64 t])]))
theorem dfTxCL_inj (t : Int) (x y : DSTxC) (h : [refA 0, .one (.fn 25 [] [1]), .one (.int .i64 x.i), .one (.int .i64 x.j)] = [refA 0, .one (.fn 25 [] [1]), .one (.int .i64 y.i), .one (.int .i64 y.j)])
    (h' : (0, Obj.arr G x.ys false) :: [(1, .box false [.int .i64 t])] = (0, Obj.arr G y.ys false) :: [(1, .box false [.int .i64 t])]) : x = y := by
  obtain ⟨a, b, c⟩ := x
  obtain ⟨a', b', c'⟩ := y
  simp only [List.cons.injEq] at h
  have h1 := int_last h.2.2.1
  have h2 := int_last h.2.2.2.1
  have h3 : a = a' := by cases h'; rfl
  try dsimp only at h1
  try dsimp only at h2
  rw [h1, h2, h3]
theorem dfTxCL_ok (t : Int) : LoopOK (rco [retKey] [(25, pTxC), (44, pioTxC)] [(5, dfTxCL t)] fx50) (loopB 5 (codeOf fx50)) (dfTxCL t) := by
  refine loopP_ok (dfTxCL_inj t) (fun x => x.ys.length - x.j) ?_
  rintro ⟨xs, i, j⟩ K r N ⟨hb, hij⟩ hN hf
  replace hb : xs.length ≤ 1048576 := hb
  replace hij : i < j := hij
  try dsimp only at hN
  try dsimp only at hf
  rcases Nat.lt_or_ge j xs.length with h | h
  · have e1 : decide ((j : Int) < ((View.tail 0).len xs : Nat)) = true := lt_t h
    have e2 := ixr_t (a := G.width) (b := 4) rfl h
    have e3 := ixl_t (a := G.width) (b := G.width) rfl h
    have e4 := ixr_t (a := G.width) (b := 4) rfl (show i < xs.length by omega)
    have e5 : (Nat.beq G.width G.width && decide (i < xs.length) && !mem? 0 []) = true := by rw [ixl_t rfl (show i < xs.length by omega)]; rfl
    have hs : dfN (qTxC t) (xs.length - j) xs i j = bif qTxC t xs[j] then dfN (qTxC t) (xs.length - (j + 1)) xs i (j + 1) else dfN (qTxC t) (xs.length - (j + 1)) (xs.set i xs[j]) (i + 1) (j + 1) := by
      obtain ⟨n, hn⟩ : ∃ n, xs.length - j = n + 1 := ⟨xs.length - j - 1, by omega⟩
      rw [hn, dfN, List.getElem?_eq_getElem h, show xs.length - (j + 1) = n by omega]
    rw [hs] at hf
    conv => lhs; whnf
    rw [e1]
    conv => lhs; whnf
    rw [e2, off_to]
    conv => lhs; whnf
    rw [e3]
    conv => lhs; whnf
    rw [getD_nth' xs j _ h]
    split
    · rename_i h0
      have h0 : (!qTxC t xs[j]) = true := h0
      rw [show qTxC t xs[j] = false by simpa using h0] at hf
      conv => lhs; whnf
      rw [e4, off_to]
      conv => lhs; whnf
      split
      rotate_left
      · rename_i hx
        exact tf e5 hx
      conv => lhs; whnf
      rw [succ_w (i := i) (by omega), succ_w (i := j) (by omega)]
      exact (hN ⟨xs.set i xs[j], i + 1, j + 1⟩ ⟨by simpa using hb, by simp only; omega⟩ (by simp only [List.length_set]; omega)).trans (by simpa using hf)
    · rename_i h0
      have h0 : (!qTxC t xs[j]) = false := h0
      rw [show qTxC t xs[j] = true by simpa using h0] at hf
      conv => lhs; whnf
      rw [succ_w (i := j) (by omega)]
      exact (hN ⟨xs, i, j + 1⟩ ⟨hb, by simp only; omega⟩ (by simp only; omega)).trans hf
  · rw [show xs.length - j = 0 by omega, dfN] at hf
    conv => lhs; whnf
    rw [show decide ((j : Int) < ((View.tail 0).len xs : Nat)) = false from lt_f h]
    conv => lhs; whnf
    exact hf
noncomputable abbrev pdfTxCRC (t : Int) : RC := rco [retKey] [(25, pTxC), (44, pioTxC)] [(5, dfTxCL t)] fx50
noncomputable def pdfTxC : List AV → Mem → AK → R := fun args m k =>
  match args, m with
  | [.val (.one (.ref 0 (.tail 0) none)), .val (.one (.fn 25 [] [1]))], (0, .arr σ xs false) :: [(1, .box false [.int .i64 t])] =>
    if h : σ = G then gd (decide (xs.length ≤ 1048576)) (k (refA 100000002) ((0, .dead) :: [(1, .box false [.int .i64 t]), (100000002, .arr G ((h ▸ xs : List (G).El).filter fun y => !qTxC t y) false)])) else none
  | _, _ => none
theorem pdfTxC_ok : COK Try.prog 50 pdfTxC := by
  refine ⟨CallOK.weakenD fun args m k r h => ?_⟩
  unfold pdfTxC at h
  split at h
  · rename_i σ xs t
    split at h
    · rename_i e
      subst e
      obtain ⟨hb, h⟩ := gd_some.mp h
      simp only [decide_eq_true_eq] at hb
      have h : k (refA 100000002) ((0, .dead) :: [(1, .box false [.int .i64 t]), (100000002, .arr G (xs.filter fun y => !qTxC t y) false)]) = some r := h
      refine ⟨_, (fno_ok (x := fx50) (own := [retKey]) (H := [(25, pTxC), (44, pioTxC)]) (L := [(5, dfTxCL t)]) rfl rfl ⟨pTxC_ok, pioTxC_ok, trivial⟩ (by kernel_rfl) ⟨dfTxCL_ok t, trivial⟩).ok, ?_⟩
      cases hi : idxP (qTxC t) xs 0 with
      | none =>
        have hI : idxI (qTxC t) xs = -1 := by simp only [idxI, hi]
        rw [idxP_none _ xs 0 hi] at h
        conv => lhs; whnf
        rewrite [hI]
        (split <;> first | (exfalso; rename_i hx; first | (simp (disch := omega) [leavesIds, V.leaves, Leaf.ids, mem?, nbeq, Ty.width, wrap_id, View.lenN, View.off, View.len_eq, sees_tail, sees_sub, rec_k, tn1, tn2, tn3, tn4, tn5, tn6] at hx; done) | (simp (disch := omega) [leavesIds, V.leaves, Leaf.ids, mem?, nbeq, Ty.width, wrap_id, View.lenN, View.off, View.len_eq, sees_tail, sees_sub, rec_k, tn1, tn2, tn3, tn4, tn5, tn6] at hx; omega) | (refine absurd (hx.symm.trans ?_) Bool.false_ne_true; (try simp only [Bool.and_eq_true, decide_eq_true_eq]); (try simp (disch := omega) [leavesIds, V.leaves, Leaf.ids, mem?, nbeq, Ty.width, wrap_id, View.lenN, View.off, View.len_eq, sees_tail, sees_sub, rec_k, tn1, tn2, tn3, tn4, tn5, tn6]); (try omega); done) | omega) | (conv => lhs; whnf))
        exact h
      | some i =>
        have hI : idxI (qTxC t) xs = (i : Nat) := by simp only [idxI, hi]
        have hb2 := (idxP_bnd _ xs 0 i hi).2
        have e1 := dfN_len (qTxC t) (xs.length - (i + 1)) xs i (i + 1)
        have e2 := dfN_le (qTxC t) (xs.length - (i + 1)) xs i (i + 1) (by omega) (by omega)
        have e3 := df_filter (qTxC t) xs i (xs.length - (i + 1)) hi (by omega)
        conv => lhs; whnf
        rewrite [hI]
        (split <;> first | (exfalso; rename_i hx; first | (simp (disch := omega) [leavesIds, V.leaves, Leaf.ids, mem?, nbeq, Ty.width, wrap_id, View.lenN, View.off, View.len_eq, sees_tail, sees_sub, rec_k, tn1, tn2, tn3, tn4, tn5, tn6] at hx; done) | (simp (disch := omega) [leavesIds, V.leaves, Leaf.ids, mem?, nbeq, Ty.width, wrap_id, View.lenN, View.off, View.len_eq, sees_tail, sees_sub, rec_k, tn1, tn2, tn3, tn4, tn5, tn6] at hx; omega) | (refine absurd (hx.symm.trans ?_) Bool.false_ne_true; (try simp only [Bool.and_eq_true, decide_eq_true_eq]); (try simp (disch := omega) [leavesIds, V.leaves, Leaf.ids, mem?, nbeq, Ty.width, wrap_id, View.lenN, View.off, View.len_eq, sees_tail, sees_sub, rec_k, tn1, tn2, tn3, tn4, tn5, tn6]); (try omega); done) | omega) | (conv => lhs; whnf))
        rewrite [succ_w (i := i) (by omega)]
        refine (loopP_eq (dfTxCL_inj t) (x := ⟨xs, i, i + 1⟩) ⟨hb, by simp only; omega⟩ _).trans ?_
        dsimp only
        generalize dfN (qTxC t) (xs.length - (i + 1)) xs i (i + 1) = D at *
        obtain ⟨ys, n⟩ := D
        replace e1 : ys.length = xs.length := e1
        replace e2 : n ≤ xs.length := e2
        replace e3 : ys.take n = xs.filter fun y => !qTxC t y := e3
        rw [← e3] at h
        conv => lhs; whnf
        repeat' ((first | split | ((conv => lhs; arg 3; whnf); split)) <;> first | (exfalso; rename_i hx; first | (simp (disch := omega) [leavesIds, V.leaves, Leaf.ids, mem?, nbeq, Ty.width, wrap_id, View.lenN, View.off, View.len_eq, sees_tail, sees_sub, rec_k, tn1, tn2, tn3, tn4, tn5, tn6] at hx; done) | (simp (disch := omega) [leavesIds, V.leaves, Leaf.ids, mem?, nbeq, Ty.width, wrap_id, View.lenN, View.off, View.len_eq, sees_tail, sees_sub, rec_k, tn1, tn2, tn3, tn4, tn5, tn6] at hx; omega) | (refine absurd (hx.symm.trans ?_) Bool.false_ne_true; (try simp only [Bool.and_eq_true, decide_eq_true_eq]); (try simp (disch := omega) [leavesIds, V.leaves, Leaf.ids, mem?, nbeq, Ty.width, wrap_id, View.lenN, View.off, View.len_eq, sees_tail, sees_sub, rec_k, tn1, tn2, tn3, tn4, tn5, tn6]); (try omega); done) | omega) | (rename_i he; cases he; conv => lhs; whnf) | (conv => lhs; whnf))
        all_goals (first | refine arr_eq0 h ?_ | refine arr_eq h ?_ | refine arr_eq2 h ?_) <;> (simp (disch := omega) [leavesIds, V.leaves, Leaf.ids, mem?, nbeq, Ty.width, wrap_id, View.lenN, View.off, View.len_eq, sees_tail, sees_sub, rec_k, tn1, tn2, tn3, tn4, tn5, tn6, List.take_append, List.drop_append, List.take_of_length_le, List.drop_of_length_le, e1, List.take_take]; done)
    · cases h
  · cases h

/-! ### locks.Drop$2 -/
noncomputable def qNoD : Unit → GG → Bool := hide fun e x => false
theorem qNoD_eq (e : Unit) (x : GG) : qNoD e x = (false) := by unfold qNoD; rw [hide_eq]
noncomputable def pNoD : List AV → Mem → AK → R := fun args m k =>
  match args, m with
  | [.val (.agg [.int .i64 a, .int .i64 b, .int .i64 c, .int .i64 d])], [] => k (.one (.bool (qNoD () (a, (b, c), d)))) []
  | _, _ => none
theorem pNoD_ok : COK Try.prog 27 pNoD := by
  refine ⟨CallOK.weaken (fn_ok (x := fx27) (H := []) (L := []) rfl rfl trivial (by kernel_rfl) trivial).ok fun args m k r h => ?_⟩
  unfold pNoD at h
  split at h
  · refine Eq.trans ?_ h
    conv => lhs; whnf
    repeat' ((first | split | ((conv => lhs; arg 3; whnf); split)) <;> first | (exfalso; rename_i hx; first | (simp (disch := omega) [leavesIds, V.leaves, Leaf.ids, mem?, nbeq, Ty.width, wrap_id, View.lenN, View.off, View.len_eq, sees_tail, sees_sub, rec_k, tn1, tn2, tn3, tn4, tn5, tn6] at hx; done) | (simp (disch := omega) [leavesIds, V.leaves, Leaf.ids, mem?, nbeq, Ty.width, wrap_id, View.lenN, View.off, View.len_eq, sees_tail, sees_sub, rec_k, tn1, tn2, tn3, tn4, tn5, tn6] at hx; omega) | (refine absurd (hx.symm.trans ?_) Bool.false_ne_true; (try simp only [Bool.and_eq_true, decide_eq_true_eq]); (try simp (disch := omega) [leavesIds, V.leaves, Leaf.ids, mem?, nbeq, Ty.width, wrap_id, View.lenN, View.off, View.len_eq, sees_tail, sees_sub, rec_k, tn1, tn2, tn3, tn4, tn5, tn6]); (try omega); done) | omega) | (rename_i he; cases he; conv => lhs; whnf) | (conv => lhs; whnf))
    all_goals exact kbool (by rewrite [qNoD_eq]; first | rfl | (rw [Bool.eq_iff_iff]; simp_all [beq_pair, beq_int]; done) | (simp_all [beq_pair, beq_int]; done) | (rw [Bool.eq_iff_iff]; simp_all [beq_pair, beq_int]; omega))
  · cases h

/-! #### the first that fits, in a list of the call's own -/
noncomputable def ioNoDL (xs : List GG)  := loopP (α := Nat) (fun i => [refA 0, .one (.fn 27 [] []), .one (.int .i64 xs.length), .one (.int .i64 i)]) (fun _ => (0, .arr G xs false) :: []) (fun _ => xs.length ≤ 1048576)
  (fun i K => match idxP (qNoD ()) (xs.drop i) i with | some j => K.ret [.one (.int .i64 (j : Nat))] ((0, .arr G xs false) :: []) | none => K.exit 0 [] ((0, .arr G xs false) :: []))
theorem ioNoDL_ok (xs : List GG)  : LoopOK (rc [(27, pNoD)] [(2, ioNoDL xs )] fx44) (loopB 2 (codeOf fx44)) (ioNoDL xs ) := by
  refine loopP_ok (fun x y h _ => by simp only [List.cons.injEq] at h; exact int_last h.2.2.2.1) (fun i => xs.length - i) ?_
  intro i K r N hb hN hf
  try dsimp only at hb
  try dsimp only at hN
  try dsimp only at hf
  rcases Nat.lt_or_ge i xs.length with h | h
  · have e1 := lt_t h
    have e2 := ixr_t (a := G.width) (b := 4) rfl h
    have e3 := ixl_t (a := G.width) (b := G.width) rfl h
    rw [drop_nth xs i h, idxP] at hf
    conv => lhs; whnf
    rw [e1]
    conv => lhs; whnf
    rw [e2, off_to]
    conv => lhs; whnf
    rw [e3]
    conv => lhs; whnf
    rw [getD_nth' xs i _ h]
    split
    · rename_i h0
      have h0 : qNoD () xs[i] = true := h0
      rw [h0] at hf
      conv => lhs; whnf
      exact hf
    · rename_i h0
      have h0 : qNoD () xs[i] = false := h0
      rw [h0] at hf
      conv => lhs; whnf
      rw [succ_w (by omega)]
      exact (hN (i + 1) hb (by omega)).trans hf
  · rw [List.drop_eq_nil_of_le h, idxP] at hf
    conv => lhs; whnf
    rw [lt_f h]
    conv => lhs; whnf
    exact hf
noncomputable def pioNoD : List AV → Mem → AK → R := fun args m k =>
  match args, m with
  | [.val (.one (.ref 0 (.tail 0) none)), .val (.one (.fn 27 [] []))], (0, .arr σ xs false) :: [] =>
    if h : σ = G then gd (decide (xs.length ≤ 1048576)) (k (.one (.int .i64 (idxI (qNoD ()) (h ▸ xs : List (G).El)))) ((0, .arr σ xs false) :: [])) else none
  | _, _ => none
theorem pioNoD_ok : COK Try.prog 44 pioNoD := by
  refine ⟨CallOK.weakenD fun args m k r h => ?_⟩
  unfold pioNoD at h
  split at h
  · rename_i σ xs 
    split at h
    · rename_i e
      subst e
      obtain ⟨hb, h⟩ := gd_some.mp h
      simp only [decide_eq_true_eq] at hb
      refine ⟨_, (fn_ok (x := fx44) (H := [(27, pNoD)]) (L := [(2, ioNoDL xs )]) rfl rfl ⟨pNoD_ok, trivial⟩ (by kernel_rfl) ⟨ioNoDL_ok xs , trivial⟩).ok, ?_⟩
      conv => lhs; whnf
      refine (loopP_eq (fun x y h _ => by simp only [List.cons.injEq] at h; exact int_last h.2.2.2.1) (x := 0) hb _).trans ?_
      dsimp only
      rw [List.drop_zero]
      simp only [idxI] at h
      cases hi : idxP (qNoD ()) xs 0 with
      | none =>
        rw [hi] at h
        conv => lhs; whnf
        exact h
      | some j =>
        rw [hi] at h
        conv => lhs; whnf
        exact h
    · cases h
  · cases h

/-! #### the others, in place -/
structure DSNoD where
  ys : List GG
  i : Nat
  j : Nat
noncomputable def dfNoDL  := loopP (α := DSNoD) (fun x => [refA 0, .one (.fn 27 [] []), .one (.int .i64 x.i), .one (.int .i64 x.j)]) (fun x => (0, .arr G x.ys false) :: []) (fun x => x.ys.length ≤ 1048576 ∧ x.i < x.j)
  (fun x K => K.exit 0 [refA 0, .one (.int .i64 ((dfN (qNoD ()) (x.ys.length - x.j) x.ys x.i x.j).2 : Nat))] ((0, .arr G (dfN (qNoD ()) (x.ys.length - x.j) x.ys x.i x.j).1 false) :: []))
theorem dfNoDL_inj  (x y : DSNoD) (h : [refA 0, .one (.fn 27 [] []), .one (.int .i64 x.i), .one (.int .i64 x.j)] = [refA 0, .one (.fn 27 [] []), .one (.int .i64 y.i), .one (.int .i64 y.j)])
    (h' : (0, Obj.arr G x.ys false) :: [] = (0, Obj.arr G y.ys false) :: []) : x = y := by
  obtain ⟨a, b, c⟩ := x
  obtain ⟨a', b', c'⟩ := y
  simp only [List.cons.injEq] at h
  have h1 := int_last h.2.2.1
  have h2 := int_last h.2.2.2.1
  have h3 : a = a' := by cases h'; rfl
  try dsimp only at h1
  try dsimp only at h2
  rw [h1, h2, h3]
theorem dfNoDL_ok  : LoopOK (rco [retKey] [(27, pNoD), (44, pioNoD)] [(5, dfNoDL )] fx50) (loopB 5 (codeOf fx50)) (dfNoDL ) := by
  refine loopP_ok (dfNoDL_inj ) (fun x => x.ys.length - x.j) ?_
  rintro ⟨xs, i, j⟩ K r N ⟨hb, hij⟩ hN hf
  replace hb : xs.length ≤ 1048576 := hb
  replace hij : i < j := hij
  try dsimp only at hN
  try dsimp only at hf
  rcases Nat.lt_or_ge j xs.length with h | h
  · have e1 : decide ((j : Int) < ((View.tail 0).len xs : Nat)) = true := lt_t h
    have e2 := ixr_t (a := G.width) (b := 4) rfl h
    have e3 := ixl_t (a := G.width) (b := G.width) rfl h
    have e4 := ixr_t (a := G.width) (b := 4) rfl (show i < xs.length by omega)
    have e5 : (Nat.beq G.width G.width && decide (i < xs.length) && !mem? 0 []) = true := by rw [ixl_t rfl (show i < xs.length by omega)]; rfl
    have hs : dfN (qNoD ()) (xs.length - j) xs i j = bif qNoD () xs[j] then dfN (qNoD ()) (xs.length - (j + 1)) xs i (j + 1) else dfN (qNoD ()) (xs.length - (j + 1)) (xs.set i xs[j]) (i + 1) (j + 1) := by
      obtain ⟨n, hn⟩ : ∃ n, xs.length - j = n + 1 := ⟨xs.length - j - 1, by omega⟩
      rw [hn, dfN, List.getElem?_eq_getElem h, show xs.length - (j + 1) = n by omega]
    rw [hs] at hf
    conv => lhs; whnf
    rw [e1]
    conv => lhs; whnf
    rw [e2, off_to]
    conv => lhs; whnf
    rw [e3]
    conv => lhs; whnf
    rw [getD_nth' xs j _ h]
    split
    · rename_i h0
      have h0 : (!qNoD () xs[j]) = true := h0
      rw [show qNoD () xs[j] = false by simpa using h0] at hf
      conv => lhs; whnf
      rw [e4, off_to]
      conv => lhs; whnf
      split
      rotate_left
      · rename_i hx
        exact tf e5 hx
      conv => lhs; whnf
      rw [succ_w (i := i) (by omega), succ_w (i := j) (by omega)]
      exact (hN ⟨xs.set i xs[j], i + 1, j + 1⟩ ⟨by simpa using hb, by simp only; omega⟩ (by simp only [List.length_set]; omega)).trans (by simpa using hf)
    · rename_i h0
      have h0 : (!qNoD () xs[j]) = false := h0
      rw [show qNoD () xs[j] = true by simpa using h0] at hf
      conv => lhs; whnf
      rw [succ_w (i := j) (by omega)]
      exact (hN ⟨xs, i, j + 1⟩ ⟨hb, by simp only; omega⟩ (by simp only; omega)).trans hf
  · rw [show xs.length - j = 0 by omega, dfN] at hf
    conv => lhs; whnf
    rw [show decide ((j : Int) < ((View.tail 0).len xs : Nat)) = false from lt_f h]
    conv => lhs; whnf
    exact hf
noncomputable abbrev pdfNoDRC  : RC := rco [retKey] [(27, pNoD), (44, pioNoD)] [(5, dfNoDL )] fx50
noncomputable def pdfNoD : List AV → Mem → AK → R := fun args m k =>
  match args, m with
  | [.val (.one (.ref 0 (.tail 0) none)), .val (.one (.fn 27 [] []))], (0, .arr σ xs false) :: [] =>
    if h : σ = G then gd (decide (xs.length ≤ 1048576)) (k (refA 100000001) ((0, .dead) :: [(100000001, .arr G ((h ▸ xs : List (G).El).filter fun y => !qNoD () y) false)])) else none
  | _, _ => none
theorem pdfNoD_ok : COK Try.prog 50 pdfNoD := by
  refine ⟨CallOK.weakenD fun args m k r h => ?_⟩
  unfold pdfNoD at h
  split at h
  · rename_i σ xs 
    split at h
    · rename_i e
      subst e
      obtain ⟨hb, h⟩ := gd_some.mp h
      simp only [decide_eq_true_eq] at hb
      have h : k (refA 100000001) ((0, .dead) :: [(100000001, .arr G (xs.filter fun y => !qNoD () y) false)]) = some r := h
      refine ⟨_, (fno_ok (x := fx50) (own := [retKey]) (H := [(27, pNoD), (44, pioNoD)]) (L := [(5, dfNoDL )]) rfl rfl ⟨pNoD_ok, pioNoD_ok, trivial⟩ (by kernel_rfl) ⟨dfNoDL_ok , trivial⟩).ok, ?_⟩
      cases hi : idxP (qNoD ()) xs 0 with
      | none =>
        have hI : idxI (qNoD ()) xs = -1 := by simp only [idxI, hi]
        rw [idxP_none _ xs 0 hi] at h
        conv => lhs; whnf
        rewrite [hI]
        (split <;> first | (exfalso; rename_i hx; first | (simp (disch := omega) [leavesIds, V.leaves, Leaf.ids, mem?, nbeq, Ty.width, wrap_id, View.lenN, View.off, View.len_eq, sees_tail, sees_sub, rec_k, tn1, tn2, tn3, tn4, tn5, tn6] at hx; done) | (simp (disch := omega) [leavesIds, V.leaves, Leaf.ids, mem?, nbeq, Ty.width, wrap_id, View.lenN, View.off, View.len_eq, sees_tail, sees_sub, rec_k, tn1, tn2, tn3, tn4, tn5, tn6] at hx; omega) | (refine absurd (hx.symm.trans ?_) Bool.false_ne_true; (try simp only [Bool.and_eq_true, decide_eq_true_eq]); (try simp (disch := omega) [leavesIds, V.leaves, Leaf.ids, mem?, nbeq, Ty.width, wrap_id, View.lenN, View.off, View.len_eq, sees_tail, sees_sub, rec_k, tn1, tn2, tn3, tn4, tn5, tn6]); (try omega); done) | omega) | (conv => lhs; whnf))
        exact h
      | some i =>
        have hI : idxI (qNoD ()) xs = (i : Nat) := by simp only [idxI, hi]
        have hb2 := (idxP_bnd _ xs 0 i hi).2
        have e1 := dfN_len (qNoD ()) (xs.length - (i + 1)) xs i (i + 1)
        have e2 := dfN_le (qNoD ()) (xs.length - (i + 1)) xs i (i + 1) (by omega) (by omega)
        have e3 := df_filter (qNoD ()) xs i (xs.length - (i + 1)) hi (by omega)
        conv => lhs; whnf
        rewrite [hI]
        (split <;> first | (exfalso; rename_i hx; first | (simp (disch := omega) [leavesIds, V.leaves, Leaf.ids, mem?, nbeq, Ty.width, wrap_id, View.lenN, View.off, View.len_eq, sees_tail, sees_sub, rec_k, tn1, tn2, tn3, tn4, tn5, tn6] at hx; done) | (simp (disch := omega) [leavesIds, V.leaves, Leaf.ids, mem?, nbeq, Ty.width, wrap_id, View.lenN, View.off, View.len_eq, sees_tail, sees_sub, rec_k, tn1, tn2, tn3, tn4, tn5, tn6] at hx; omega) | (refine absurd (hx.symm.trans ?_) Bool.false_ne_true; (try simp only [Bool.and_eq_true, decide_eq_true_eq]); (try simp (disch := omega) [leavesIds, V.leaves, Leaf.ids, mem?, nbeq, Ty.width, wrap_id, View.lenN, View.off, View.len_eq, sees_tail, sees_sub, rec_k, tn1, tn2, tn3, tn4, tn5, tn6]); (try omega); done) | omega) | (conv => lhs; whnf))
        rewrite [succ_w (i := i) (by omega)]
        refine (loopP_eq (dfNoDL_inj ) (x := ⟨xs, i, i + 1⟩) ⟨hb, by simp only; omega⟩ _).trans ?_
        dsimp only
        generalize dfN (qNoD ()) (xs.length - (i + 1)) xs i (i + 1) = D at *
        obtain ⟨ys, n⟩ := D
        replace e1 : ys.length = xs.length := e1
        replace e2 : n ≤ xs.length := e2
        replace e3 : ys.take n = xs.filter fun y => !qNoD () y := e3
        rw [← e3] at h
        conv => lhs; whnf
        repeat' ((first | split | ((conv => lhs; arg 3; whnf); split)) <;> first | (exfalso; rename_i hx; first | (simp (disch := omega) [leavesIds, V.leaves, Leaf.ids, mem?, nbeq, Ty.width, wrap_id, View.lenN, View.off, View.len_eq, sees_tail, sees_sub, rec_k, tn1, tn2, tn3, tn4, tn5, tn6] at hx; done) | (simp (disch := omega) [leavesIds, V.leaves, Leaf.ids, mem?, nbeq, Ty.width, wrap_id, View.lenN, View.off, View.len_eq, sees_tail, sees_sub, rec_k, tn1, tn2, tn3, tn4, tn5, tn6] at hx; omega) | (refine absurd (hx.symm.trans ?_) Bool.false_ne_true; (try simp only [Bool.and_eq_true, decide_eq_true_eq]); (try simp (disch := omega) [leavesIds, V.leaves, Leaf.ids, mem?, nbeq, Ty.width, wrap_id, View.lenN, View.off, View.len_eq, sees_tail, sees_sub, rec_k, tn1, tn2, tn3, tn4, tn5, tn6]); (try omega); done) | omega) | (rename_i he; cases he; conv => lhs; whnf) | (conv => lhs; whnf))
        all_goals (first | refine arr_eq0 h ?_ | refine arr_eq h ?_ | refine arr_eq2 h ?_) <;> (simp (disch := omega) [leavesIds, V.leaves, Leaf.ids, mem?, nbeq, Ty.width, wrap_id, View.lenN, View.off, View.len_eq, sees_tail, sees_sub, rec_k, tn1, tn2, tn3, tn4, tn5, tn6, List.take_append, List.drop_append, List.take_of_length_le, List.drop_of_length_le, e1, List.take_take]; done)
    · cases h
  · cases h

/-! ### locks.Drop$1 -/
noncomputable def qLk : Int × Int × Int → GG → Bool := hide fun e x => x.1 == e.1 && (x.2.1.1 == e.2.1 && x.2.1.2 == e.2.2)
theorem qLk_eq (e : Int × Int × Int) (x : GG) : qLk e x = (x.1 == e.1 && (x.2.1.1 == e.2.1 && x.2.1.2 == e.2.2)) := by unfold qLk; rw [hide_eq]
noncomputable def pLk : List AV → Mem → AK → R := fun args m k =>
  match args, m with
  | [.val (.agg [.int .i64 a, .int .i64 b, .int .i64 c, .int .i64 d]), .val (.one (.ptr 0 0 none)), .val (.one (.ptr 1 0 none))], [(0, .box false [.int .i64 t]), (1, .box false [.int .i64 p, .int .i64 s])] => k (.one (.bool (qLk (t, p, s) (a, (b, c), d)))) [(0, .box false [.int .i64 t]), (1, .box false [.int .i64 p, .int .i64 s])]
  | _, _ => none
theorem pLk_ok : COK Try.prog 26 pLk := by
  refine ⟨CallOK.weaken (fn_ok (x := fx26) (H := []) (L := []) rfl rfl trivial (by kernel_rfl) trivial).ok fun args m k r h => ?_⟩
  unfold pLk at h
  split at h
  · refine Eq.trans ?_ h
    conv => lhs; whnf
    repeat' ((first | split | ((conv => lhs; arg 3; whnf); split)) <;> first | (exfalso; rename_i hx; first | (simp (disch := omega) [leavesIds, V.leaves, Leaf.ids, mem?, nbeq, Ty.width, wrap_id, View.lenN, View.off, View.len_eq, sees_tail, sees_sub, rec_k, tn1, tn2, tn3, tn4, tn5, tn6] at hx; done) | (simp (disch := omega) [leavesIds, V.leaves, Leaf.ids, mem?, nbeq, Ty.width, wrap_id, View.lenN, View.off, View.len_eq, sees_tail, sees_sub, rec_k, tn1, tn2, tn3, tn4, tn5, tn6] at hx; omega) | (refine absurd (hx.symm.trans ?_) Bool.false_ne_true; (try simp only [Bool.and_eq_true, decide_eq_true_eq]); (try simp (disch := omega) [leavesIds, V.leaves, Leaf.ids, mem?, nbeq, Ty.width, wrap_id, View.lenN, View.off, View.len_eq, sees_tail, sees_sub, rec_k, tn1, tn2, tn3, tn4, tn5, tn6]); (try omega); done) | omega) | (rename_i he; cases he; conv => lhs; whnf) | (conv => lhs; whnf))
    all_goals exact kbool (by rewrite [qLk_eq]; first | rfl | (rw [Bool.eq_iff_iff]; simp_all [beq_pair, beq_int]; done) | (simp_all [beq_pair, beq_int]; done) | (rw [Bool.eq_iff_iff]; simp_all [beq_pair, beq_int]; omega))
  · cases h

/-! #### the first that fits, in a list of the call's own -/
noncomputable def ioLkL (xs : List GG) (t p s : Int) := loopP (α := Nat) (fun i => [refA 0, .one (.fn 26 [] [1, 2]), .one (.int .i64 xs.length), .one (.int .i64 i)]) (fun _ => (0, .arr G xs false) :: [(1, .box false [.int .i64 t]), (2, .box false [.int .i64 p, .int .i64 s])]) (fun _ => xs.length ≤ 1048576)
  (fun i K => match idxP (qLk (t, p, s)) (xs.drop i) i with | some j => K.ret [.one (.int .i64 (j : Nat))] ((0, .arr G xs false) :: [(1, .box false [.int .i64 t]), (2, .box false [.int .i64 p, .int .i64 s])]) | none => K.exit 0 [] ((0, .arr G xs false) :: [(1, .box false [.int .i64 t]), (2, .box false [.int .i64 p, .int .i64 s])]))
theorem ioLkL_ok (xs : List GG) (t p s : Int) : LoopOK (rc [(26, pLk)] [(2, ioLkL xs t p s)] fx44) (loopB 2 (codeOf fx44)) (ioLkL xs t p s) := by
  refine loopP_ok (fun x y h _ => by simp only [List.cons.injEq] at h; exact int_last h.2.2.2.1) (fun i => xs.length - i) ?_
  intro i K r N hb hN hf
  try dsimp only at hb
  try dsimp only at hN
  try dsimp only at hf
  rcases Nat.lt_or_ge i xs.length with h | h
  · have e1 := lt_t h
    have e2 := ixr_t (a := G.width) (b := 4) rfl h
    have e3 := ixl_t (a := G.width) (b := G.width) rfl h
    rw [drop_nth xs i h, idxP] at hf
    conv => lhs; whnf
    rw [e1]
    conv => lhs; whnf
    rw [e2, off_to]
    conv => lhs; whnf
    rw [e3]
    conv => lhs; whnf
    rw [getD_nth' xs i _ h]
    split
    · rename_i h0
      have h0 : qLk (t, p, s) xs[i] = true := h0
      rw [h0] at hf
      conv => lhs; whnf
      exact hf
    · rename_i h0
      have h0 : qLk (t, p, s) xs[i] = false := h0
      rw [h0] at hf
      conv => lhs; whnf
      rw [succ_w (by omega)]
      exact (hN (i + 1) hb (by omega)).trans hf
  · rw [List.drop_eq_nil_of_le h, idxP] at hf
    conv => lhs; whnf
    rw [lt_f h]
    conv => lhs; whnf
    exact hf
noncomputable def pioLk : List AV → Mem → AK → R := fun args m k =>
  match args, m with
  | [.val (.one (.ref 0 (.tail 0) none)), .val (.one (.fn 26 [] [1, 2]))], (0, .arr σ xs false) :: [(1, .box false [.int .i64 t]), (2, .box false [.int .i64 p, .int .i64 s])] =>
    if h : σ = G then gd (decide (xs.length ≤ 1048576)) (k (.one (.int .i64 (idxI (qLk (t, p, s)) (h ▸ xs : List (G).El)))) ((0, .arr σ xs false) :: [(1, .box false [.int .i64 t]), (2, .box false [.int .i64 p, .int .i64 s])])) else none
  | _, _ => none
theorem pioLk_ok : COK Try.prog 44 pioLk := by
  refine ⟨CallOK.weakenD fun args m k r h => ?_⟩
  unfold pioLk at h
  split at h
  · rename_i σ xs t p s
    split at h
    · rename_i e
      subst e
      obtain ⟨hb, h⟩ := gd_some.mp h
      simp only [decide_eq_true_eq] at hb
      refine ⟨_, (fn_ok (x := fx44) (H := [(26, pLk)]) (L := [(2, ioLkL xs t p s)]) rfl rfl ⟨pLk_ok, trivial⟩ (by kernel_rfl) ⟨ioLkL_ok xs t p s, trivial⟩).ok, ?_⟩
      conv => lhs; whnf
      refine (loopP_eq (fun x y h _ => by simp only [List.cons.injEq] at h; exact int_last h.2.2.2.1) (x := 0) hb _).trans ?_
      dsimp only
      rw [List.drop_zero]
      simp only [idxI] at h
      cases hi : idxP (qLk (t, p, s)) xs 0 with
      | none =>
        rw [hi] at h
        conv => lhs; whnf
        exact h
      | some j =>
        rw [hi] at h
        conv => lhs; whnf
        exact h
    · cases h
  · cases h

/-! #### the others, in place -/
structure DSLk where
  ys : List GG
  i : Nat
  j : Nat
noncomputable def dfLkL (t p s : Int) := loopP (α := DSLk) (fun x => [refA 0, .one (.fn 26 [] [1, 2]), .one (.int .i64 x.i), .one (.int .i64 x.j)]) (fun x => (0, .arr G x.ys false) :: [(1, .box false [.int .i64 t]), (2, .box false [.int .i64 p, .int .i64 s])]) (fun x => x.ys.length ≤ 1048576 ∧ x.i < x.j)
  (fun x K => K.exit 0 [refA 0, .one (.int .i64 ((dfN (qLk (t, p, s)) (x.ys.length - x.j) x.ys x.i x.j).2 : Nat))] ((0, .arr G (dfN (qLk (t, p, s)) (x.ys.length - x.j) x.ys x.i x.j).1 false) :: [(1, .box false [.int .i64 t]), (2, .box false [.int .i64 p, .int .i64 s])]))
theorem dfLkL_inj (t p s : Int) (x y : DSLk) (h : [refA 0, .one (.fn 26 [] [1, 2]), .one (.int .i64 x.i), .one (.int .i64 x.j)] = [refA 0, .one (.fn 26 [] [1, 2]), .one (.int .i64 y.i), .one (.int .i64 y.j)])
    (h' : (0, Obj.arr G x.ys false) :: [(1, .box false [.int .i64 t]), (2, .box false [.int .i64 p, .int .i64 s])] = (0, Obj.arr G y.ys false) :: [(1, .box false [.int .i64 t]), (2, .box false [.int .i64 p, .int .i64 s])]) : x = y := by
  obtain ⟨a, b, c⟩ := x
  obtain ⟨a', b', c'⟩ := y
  simp only [List.cons.injEq] at h
  have h1 := int_last h.2.2.1
  have h2 := int_last h.2.2.2.1
  have h3 : a = a' := by cases h'; rfl
  try dsimp only at h1
  try dsimp only at h2
  rw [h1, h2, h3]
theorem dfLkL_ok (t p s : Int) : LoopOK (rco [retKey] [(26, pLk), (44, pioLk)] [(5, dfLkL t p s)] fx50) (loopB 5 (codeOf fx50)) (dfLkL t p s) := by
  refine loopP_ok (dfLkL_inj t p s) (fun x => x.ys.length - x.j) ?_
  rintro ⟨xs, i, j⟩ K r N ⟨hb, hij⟩ hN hf
  replace hb : xs.length ≤ 1048576 := hb
  replace hij : i < j := hij
  try dsimp only at hN
  try dsimp only at hf
  rcases Nat.lt_or_ge j xs.length with h | h
  · have e1 : decide ((j : Int) < ((View.tail 0).len xs : Nat)) = true := lt_t h
    have e2 := ixr_t (a := G.width) (b := 4) rfl h
    have e3 := ixl_t (a := G.width) (b := G.width) rfl h
    have e4 := ixr_t (a := G.width) (b := 4) rfl (show i < xs.length by omega)
    have e5 : (Nat.beq G.width G.width && decide (i < xs.length) && !mem? 0 []) = true := by rw [ixl_t rfl (show i < xs.length by omega)]; rfl
    have hs : dfN (qLk (t, p, s)) (xs.length - j) xs i j = bif qLk (t, p, s) xs[j] then dfN (qLk (t, p, s)) (xs.length - (j + 1)) xs i (j + 1) else dfN (qLk (t, p, s)) (xs.length - (j + 1)) (xs.set i xs[j]) (i + 1) (j + 1) := by
      obtain ⟨n, hn⟩ : ∃ n, xs.length - j = n + 1 := ⟨xs.length - j - 1, by omega⟩
      rw [hn, dfN, List.getElem?_eq_getElem h, show xs.length - (j + 1) = n by omega]
    rw [hs] at hf
    conv => lhs; whnf
    rw [e1]
    conv => lhs; whnf
    rw [e2, off_to]
    conv => lhs; whnf
    rw [e3]
    conv => lhs; whnf
    rw [getD_nth' xs j _ h]
    split
    · rename_i h0
      have h0 : (!qLk (t, p, s) xs[j]) = true := h0
      rw [show qLk (t, p, s) xs[j] = false by simpa using h0] at hf
      conv => lhs; whnf
      rw [e4, off_to]
      conv => lhs; whnf
      split
      rotate_left
      · rename_i hx
        exact tf e5 hx
      conv => lhs; whnf
      rw [succ_w (i := i) (by omega), succ_w (i := j) (by omega)]
      exact (hN ⟨xs.set i xs[j], i + 1, j + 1⟩ ⟨by simpa using hb, by simp only; omega⟩ (by simp only [List.length_set]; omega)).trans (by simpa using hf)
    · rename_i h0
      have h0 : (!qLk (t, p, s) xs[j]) = false := h0
      rw [show qLk (t, p, s) xs[j] = true by simpa using h0] at hf
      conv => lhs; whnf
      rw [succ_w (i := j) (by omega)]
      exact (hN ⟨xs, i, j + 1⟩ ⟨hb, by simp only; omega⟩ (by simp only; omega)).trans hf
  · rw [show xs.length - j = 0 by omega, dfN] at hf
    conv => lhs; whnf
    rw [show decide ((j : Int) < ((View.tail 0).len xs : Nat)) = false from lt_f h]
    conv => lhs; whnf
    exact hf
noncomputable abbrev pdfLkRC (t p s : Int) : RC := rco [retKey] [(26, pLk), (44, pioLk)] [(5, dfLkL t p s)] fx50
noncomputable def pdfLk : List AV → Mem → AK → R := fun args m k =>
  match args, m with
  | [.val (.one (.ref 0 (.tail 0) none)), .val (.one (.fn 26 [] [1, 2]))], (0, .arr σ xs false) :: [(1, .box false [.int .i64 t]), (2, .box false [.int .i64 p, .int .i64 s])] =>
    if h : σ = G then gd (decide (xs.length ≤ 1048576)) (k (refA 100000003) ((0, .dead) :: [(1, .box false [.int .i64 t]), (2, .box false [.int .i64 p, .int .i64 s]), (100000003, .arr G ((h ▸ xs : List (G).El).filter fun y => !qLk (t, p, s) y) false)])) else none
  | _, _ => none
theorem pdfLk_ok : COK Try.prog 50 pdfLk := by
  refine ⟨CallOK.weakenD fun args m k r h => ?_⟩
  unfold pdfLk at h
  split at h
  · rename_i σ xs t p s
    split at h
    · rename_i e
      subst e
      obtain ⟨hb, h⟩ := gd_some.mp h
      simp only [decide_eq_true_eq] at hb
      have h : k (refA 100000003) ((0, .dead) :: [(1, .box false [.int .i64 t]), (2, .box false [.int .i64 p, .int .i64 s]), (100000003, .arr G (xs.filter fun y => !qLk (t, p, s) y) false)]) = some r := h
      refine ⟨_, (fno_ok (x := fx50) (own := [retKey]) (H := [(26, pLk), (44, pioLk)]) (L := [(5, dfLkL t p s)]) rfl rfl ⟨pLk_ok, pioLk_ok, trivial⟩ (by kernel_rfl) ⟨dfLkL_ok t p s, trivial⟩).ok, ?_⟩
      cases hi : idxP (qLk (t, p, s)) xs 0 with
      | none =>
        have hI : idxI (qLk (t, p, s)) xs = -1 := by simp only [idxI, hi]
        rw [idxP_none _ xs 0 hi] at h
        conv => lhs; whnf
        rewrite [hI]
        (split <;> first | (exfalso; rename_i hx; first | (simp (disch := omega) [leavesIds, V.leaves, Leaf.ids, mem?, nbeq, Ty.width, wrap_id, View.lenN, View.off, View.len_eq, sees_tail, sees_sub, rec_k, tn1, tn2, tn3, tn4, tn5, tn6] at hx; done) | (simp (disch := omega) [leavesIds, V.leaves, Leaf.ids, mem?, nbeq, Ty.width, wrap_id, View.lenN, View.off, View.len_eq, sees_tail, sees_sub, rec_k, tn1, tn2, tn3, tn4, tn5, tn6] at hx; omega) | (refine absurd (hx.symm.trans ?_) Bool.false_ne_true; (try simp only [Bool.and_eq_true, decide_eq_true_eq]); (try simp (disch := omega) [leavesIds, V.leaves, Leaf.ids, mem?, nbeq, Ty.width, wrap_id, View.lenN, View.off, View.len_eq, sees_tail, sees_sub, rec_k, tn1, tn2, tn3, tn4, tn5, tn6]); (try omega); done) | omega) | (conv => lhs; whnf))
        exact h
      | some i =>
        have hI : idxI (qLk (t, p, s)) xs = (i : Nat) := by simp only [idxI, hi]
        have hb2 := (idxP_bnd _ xs 0 i hi).2
        have e1 := dfN_len (qLk (t, p, s)) (xs.length - (i + 1)) xs i (i + 1)
        have e2 := dfN_le (qLk (t, p, s)) (xs.length - (i + 1)) xs i (i + 1) (by omega) (by omega)
        have e3 := df_filter (qLk (t, p, s)) xs i (xs.length - (i + 1)) hi (by omega)
        conv => lhs; whnf
        rewrite [hI]
        (split <;> first | (exfalso; rename_i hx; first | (simp (disch := omega) [leavesIds, V.leaves, Leaf.ids, mem?, nbeq, Ty.width, wrap_id, View.lenN, View.off, View.len_eq, sees_tail, sees_sub, rec_k, tn1, tn2, tn3, tn4, tn5, tn6] at hx; done) | (simp (disch := omega) [leavesIds, V.leaves, Leaf.ids, mem?, nbeq, Ty.width, wrap_id, View.lenN, View.off, View.len_eq, sees_tail, sees_sub, rec_k, tn1, tn2, tn3, tn4, tn5, tn6] at hx; omega) | (refine absurd (hx.symm.trans ?_) Bool.false_ne_true; (try simp only [Bool.and_eq_true, decide_eq_true_eq]); (try simp (disch := omega) [leavesIds, V.leaves, Leaf.ids, mem?, nbeq, Ty.width, wrap_id, View.lenN, View.off, View.len_eq, sees_tail, sees_sub, rec_k, tn1, tn2, tn3, tn4, tn5, tn6]); (try omega); done) | omega) | (conv => lhs; whnf))
        rewrite [succ_w (i := i) (by omega)]
        refine (loopP_eq (dfLkL_inj t p s) (x := ⟨xs, i, i + 1⟩) ⟨hb, by simp only; omega⟩ _).trans ?_
        dsimp only
        generalize dfN (qLk (t, p, s)) (xs.length - (i + 1)) xs i (i + 1) = D at *
        obtain ⟨ys, n⟩ := D
        replace e1 : ys.length = xs.length := e1
        replace e2 : n ≤ xs.length := e2
        replace e3 : ys.take n = xs.filter fun y => !qLk (t, p, s) y := e3
        rw [← e3] at h
        conv => lhs; whnf
        repeat' ((first | split | ((conv => lhs; arg 3; whnf); split)) <;> first | (exfalso; rename_i hx; first | (simp (disch := omega) [leavesIds, V.leaves, Leaf.ids, mem?, nbeq, Ty.width, wrap_id, View.lenN, View.off, View.len_eq, sees_tail, sees_sub, rec_k, tn1, tn2, tn3, tn4, tn5, tn6] at hx; done) | (simp (disch := omega) [leavesIds, V.leaves, Leaf.ids, mem?, nbeq, Ty.width, wrap_id, View.lenN, View.off, View.len_eq, sees_tail, sees_sub, rec_k, tn1, tn2, tn3, tn4, tn5, tn6] at hx; omega) | (refine absurd (hx.symm.trans ?_) Bool.false_ne_true; (try simp only [Bool.and_eq_true, decide_eq_true_eq]); (try simp (disch := omega) [leavesIds, V.leaves, Leaf.ids, mem?, nbeq, Ty.width, wrap_id, View.lenN, View.off, View.len_eq, sees_tail, sees_sub, rec_k, tn1, tn2, tn3, tn4, tn5, tn6]); (try omega); done) | omega) | (rename_i he; cases he; conv => lhs; whnf) | (conv => lhs; whnf))
        all_goals (first | refine arr_eq0 h ?_ | refine arr_eq h ?_ | refine arr_eq2 h ?_) <;> (simp (disch := omega) [leavesIds, V.leaves, Leaf.ids, mem?, nbeq, Ty.width, wrap_id, View.lenN, View.off, View.len_eq, sees_tail, sees_sub, rec_k, tn1, tn2, tn3, tn4, tn5, tn6, List.take_append, List.drop_append, List.take_of_length_le, List.drop_of_length_le, e1, List.take_take]; done)
    · cases h
  · cases h
end Go.Ev.Tab

set_option maxRecDepth 100000
set_option linter.unusedVariables false
namespace Go.Ev.Tab
open Go Go.Ev.X Go.Proofs

abbrev U : Ty := .int .u64
def lenS (n : Int) : Int := if n < 1 then 0 else if n < 2 then 1 else if n < 4 then 2 else if n < 8 then 3 else 4
def pLen := pureP [U] fun x k => bif decide (0 ≤ x.1) && decide (x.1 ≤ 12) then k (.one (.int .i64 (lenS x.1))) [] else none
noncomputable def c76 := body (rc [] [] fx76) (codeOf fx76)
theorem c76_ok : COK Try.prog 76 c76 := fn_ok (x := fx76) (H := []) (L := []) rfl rfl trivial (by kernel_rfl) trivial
theorem len_ok : COK Try.prog 61 pLen := by
  refine pure_cok (fn_ok (x := fx61) (H := [(76, c76)]) (L := []) rfl rfl ⟨c76_ok, trivial⟩ (by kernel_rfl) trivial) ?_
  rintro ⟨n, u⟩ k r hb h
  dsimp only at h
  cases hn : decide (0 ≤ n) && decide (n ≤ 12) with
  | false => rw [hn] at h; cases h
  | true =>
    rw [hn, cond_true] at h
    simp only [Bool.and_eq_true, decide_eq_true_eq] at hn
    have key : ∀ n : Int, 0 ≤ n ∧ n ≤ 12 → n = 0 ∨ n = 1 ∨ n = 2 ∨ n = 3 ∨ n = 4 ∨ n = 5 ∨ n = 6 ∨ n = 7 ∨ n = 8 ∨ n = 9 ∨ n = 10 ∨ n = 11 ∨ n = 12 := by omega
    rcases key n hn with rfl | rfl | rfl | rfl | rfl | rfl | rfl | rfl | rfl | rfl | rfl | rfl | rfl
    all_goals (conv => lhs; whnf)
    all_goals exact h

def sortI (xs : List Int) : List Int := insN xs.length (xs.length - 1) xs 1
def pqV : List Int × Int ⊕ Int → List AV
  | .inl x => [.one (.ref 0 (.tail 0) none), .one (.int .i64 0), .one (.int .i64 x.1.length), .one (.int .i64 x.2), .one (.bool true), .one (.bool true)]
  | .inr i => [.one (.sl I [] (some true) (some 0)), .one (.int .i64 0), .one (.int .i64 0), .one (.int .i64 i), .one (.bool true), .one (.bool true)]
def pqM : List Int × Int ⊕ Int → Mem
  | .inl x => arrM x.1
  | .inr _ => []
noncomputable def pqL := loopP pqV pqM (fun x => ∀ y, x = .inl y → y.1.length ≤ 12) (fun x K => match x with | .inl x => K.ret [] (arrM (sortI x.1)) | .inr _ => K.ret [] [])
theorem pqL_inj (x y : List Int × Int ⊕ Int) (h : pqV x = pqV y) (h' : pqM x = pqM y) : x = y := by
  cases x with
  | inr x => cases y with
    | inr y => simp_all [pqV]
    | inl y => simp [pqM] at h'
  | inl x => cases y with
    | inr y => simp [pqM] at h'
    | inl y =>
      obtain ⟨xs, i⟩ := x
      obtain ⟨xs', i'⟩ := y
      have h' := arrM_inj h'
      dsimp only at h'
      subst h'
      simp_all [pqV]
theorem pqL_ok : LoopOK (rc [(66, c66)] [(2, pqL)] fx60) (loopB 2 (codeOf fx60)) pqL := by
  refine loopP_ok pqL_inj (fun x => 0) ?_
  rintro (⟨xs, lim⟩ | lim) K r N hb hN hf
  rotate_left
  · conv => lhs; whnf
    refine (soL_nil _).trans ?_
    conv => lhs; whnf
    exact hf
  have hb : xs.length ≤ 12 := hb ⟨xs, lim⟩ rfl
  dsimp only at hN hf
  have e1 : decide (IntKind.i64.wrap ((xs.length : Int) - 0) ≤ 12) = true := by rw [wrap_id (by omega) (by omega)]; simp; omega
  conv => lhs; whnf
  rw [e1]
  conv => lhs; whnf
  refine (soL_eq xs 1 (by unfold big; omega) _).trans ?_
  conv => lhs; whnf
  exact hf
theorem pqL_eq (xs : List Int) (i : Int) (h : xs.length ≤ 12) (K : XK) : pqL [.one (.ref 0 (.tail 0) none), .one (.int .i64 0), .one (.int .i64 xs.length), .one (.int .i64 i), .one (.bool true), .one (.bool true)] [(0, .arr I xs false)] K =
    K.ret [] [(0, .arr I (sortI xs) false)] :=
  loopP_eq pqL_inj (x := .inl ⟨xs, i⟩) (by rintro y ⟨⟩; exact h) K
theorem pqL_nil (i : Int) (K : XK) : pqL [.one (.sl I [] (some true) (some 0)), .one (.int .i64 0), .one (.int .i64 0), .one (.int .i64 i), .one (.bool true), .one (.bool true)] [] K = K.ret [] [] :=
  loopP_eq pqL_inj (x := .inr i) (by rintro y ⟨⟩) K
noncomputable def c60 := body (rc [(66, c66)] [(2, pqL)] fx60) (codeOf fx60)
theorem c60_ok : COK Try.prog 60 c60 := fn_ok (x := fx60) (H := [(66, c66)]) (L := [(2, pqL)]) rfl rfl ⟨c66_ok, trivial⟩ (by kernel_rfl) ⟨pqL_ok, trivial⟩
noncomputable def b47 := body (rc [(60, c60), (61, pLen)] [] fx47) (codeOf fx47)
theorem b47_ok : COK Try.prog 47 b47 := fn_ok (x := fx47) (H := [(60, c60), (61, pLen)]) (L := []) rfl rfl ⟨c60_ok, len_ok, trivial⟩ (by kernel_rfl) trivial
noncomputable def c47 := hide b47
theorem c47_ok : COK Try.prog 47 c47 := by unfold c47; rw [hide_eq]; exact b47_ok
theorem b47_eq (xs : List Int) (h : xs.length ≤ 12) (k : AK) : b47 [.one (.ref 0 (.tail 0) none)] [(0, .arr I xs false)] k = k (.tup []) [(0, .arr I (sortI xs) false)] := by
  have hu : IntKind.u64.wrap ((xs.length : Nat) : Int) = (xs.length : Int) := by
    unfold IntKind.wrap
    simp only [IntKind.signed, IntKind.bits]
    simp
    omega
  have e2 : (decide (0 ≤ IntKind.u64.wrap ((xs.length : Nat) : Int)) && decide (IntKind.u64.wrap ((xs.length : Nat) : Int) ≤ 12)) = true := by rw [hu]; simp; omega
  conv => lhs; whnf
  split
  · conv => lhs; whnf
    refine (pqL_eq xs _ h _).trans ?_
    conv => lhs; whnf
  · rename_i hx
    exact tf e2 hx
theorem b47_nil (k : AK) : b47 [.one (.sl I [] (some true) (some 0))] [] k = k (.tup []) [] := by
  conv => lhs; whnf
  refine (pqL_nil _ _).trans ?_
  conv => lhs; whnf
theorem c47_eq (xs : List Int) (h : xs.length ≤ 12) (k : AK) : c47 [.one (.ref 0 (.tail 0) none)] [(0, .arr I xs false)] k = k (.tup []) [(0, .arr I (sortI xs) false)] := by
  unfold c47; rw [hide_eq]; exact b47_eq xs h k
theorem c47_nil (k : AK) : c47 [.one (.sl I [] (some true) (some 0))] [] k = k (.tup []) [] := by
  unfold c47; rw [hide_eq]; exact b47_nil k
noncomputable def c48 := body (rc [] [] fx48) (codeOf fx48)
theorem c48_ok : COK Try.prog 48 c48 := fn_ok (x := fx48) (H := []) (L := []) rfl rfl trivial (by kernel_rfl) trivial
end Go.Ev.Tab

/- Contracts of Go's library over lists of numbers: neighbours that are equal, searches, copies, sorting short lists. Own work. -/
set_option maxRecDepth 100000
set_option maxHeartbeats 1000000
set_option linter.unusedVariables false
namespace Go.Ev.Tab
open Go Go.Ev.X Go.Proofs

/-! ### neighbours that are equal -/
def cpN : Nat → List Int → Nat → Nat → List Int × Nat
  | 0, ys, k, _ => (ys, k)
  | n + 1, ys, k, j => match ys[j]? with
    | some y => bif y == ys.getD (j - 1) 0 then cpN n ys k (j + 1) else cpN n (ys.set k y) (k + 1) (j + 1)
    | none => (ys, k)
def compactF : List Int → List Int
  | [] => []
  | x :: r => match r with
    | [] => [x]
    | y :: _ => bif x == y then compactF r else x :: compactF r
theorem compactF_cons (x y : Int) (r : List Int) : compactF (x :: y :: r) = bif x == y then compactF (y :: r) else x :: compactF (y :: r) := by rw [compactF]
/-- What is kept behind an element. -/
def cpT (x : Int) : List Int → List Int
  | [] => []
  | y :: r => bif y == x then cpT x r else y :: cpT y r
theorem compactF_cpT : ∀ (r : List Int) (x : Int), compactF (x :: r) = x :: cpT x r
  | [], x => rfl
  | y :: r, x => by
    rw [compactF_cons, compactF_cpT r y, cpT]
    cases h : x == y with
    | true =>
      have : x = y := by simpa using h
      subst this
      simp
    | false =>
      have : (y == x) = false := by
        rw [← h, Bool.eq_iff_iff, beq_iff_eq, beq_iff_eq]
        exact eq_comm
      rw [this]
      rfl
theorem cpN_spec : ∀ (n : Nat) (ys : List Int) (k j : Nat) (x : Int), 1 ≤ j → k < j → j ≤ ys.length → ys.length ≤ j + n → ys[j - 1]? = some x →
    (cpN n ys k j).1.length = ys.length ∧ (cpN n ys k j).2 ≤ ys.length ∧ (cpN n ys k j).1.take (cpN n ys k j).2 = ys.take k ++ cpT x (ys.drop j)
  | 0, ys, k, j, x, h1, h2, h3, h4, h5 => by
    rw [List.drop_eq_nil_of_le (by omega), cpT, cpN]
    exact ⟨rfl, by dsimp only; omega, by simp⟩
  | n + 1, ys, k, j, x, h1, h2, h3, h4, h5 => by
    rw [cpN]
    split
    · rename_i y hy
      obtain ⟨hj, hy'⟩ := List.getElem?_eq_some_iff.mp hy
      rw [List.drop_eq_getElem_cons hj, hy', cpT]
      have hx : ys.getD (j - 1) 0 = x := by rw [List.getD_eq_getElem?_getD, h5]; rfl
      rw [hx]
      cases he : y == x with
      | true =>
        have : y = x := by simpa using he
        subst this
        simp only [cond_true]
        exact cpN_spec n ys k (j + 1) y (by omega) (by omega) (by omega) (by omega) (by rw [Nat.add_sub_cancel]; exact hy)
      | false =>
        simp only [cond_false]
        obtain ⟨g1, g2, g3⟩ := cpN_spec n (ys.set k y) (k + 1) (j + 1) y (by omega) (by omega) (by simp; omega) (by simp; omega) (by rw [Nat.add_sub_cancel, List.getElem?_set_ne (by omega)]; exact hy)
        simp only [List.length_set] at g1 g2
        refine ⟨g1, g2, ?_⟩
        rw [g3]
        have a1 : (ys.set k y).take (k + 1) = ys.take k ++ [y] := by
          rw [List.take_set, List.take_succ_eq_append_getElem (by omega), List.set_append_right _ _ (by simp; omega)]
          simp [show k - min k ys.length = 0 by omega]
        have a2 : (ys.set k y).drop (j + 1) = ys.drop (j + 1) := List.drop_set_of_lt (by omega)
        rw [a1, a2]
        simp
    · rename_i hn
      have := List.getElem?_eq_none_iff.mp hn
      rw [List.drop_eq_nil_of_le this, cpT]
      exact ⟨rfl, by dsimp only; omega, by simp⟩
structure CS where
  ys : List Int
  k : Nat
  q : Nat
  j : Nat
noncomputable def cpL := loopP (α := CS) (fun x => [refA 0, .one (.int .i64 x.k), .one (.ref 0 (.tail x.q) none), .one (.int .i64 x.j)]) (fun x => [(0, .arr I x.ys false)]) (fun x => x.ys.length ≤ 1048576 ∧ x.q ≤ x.ys.length ∧ 1 ≤ x.j ∧ x.k < x.q + x.j)
  (fun x K => K.exit 2 [refA 0, .one (.int .i64 (cpN (x.ys.length - (x.q + x.j)) x.ys x.k (x.q + x.j)).2)] [(0, .arr I (cpN (x.ys.length - (x.q + x.j)) x.ys x.k (x.q + x.j)).1 false)])
theorem cpL_inj (x y : CS) (h : [refA 0, .one (.int .i64 x.k), .one (.ref 0 (.tail x.q) none), .one (.int .i64 x.j)] = [refA 0, .one (.int .i64 y.k), .one (.ref 0 (.tail y.q) none), .one (.int .i64 y.j)]) (h' : [(0, Obj.arr I x.ys false)] = [(0, Obj.arr I y.ys false)]) : x = y := by
  obtain ⟨a, b, c, d⟩ := x
  obtain ⟨a', b', c', d'⟩ := y
  simp only [List.cons.injEq] at h
  have h1 := int_last h.2.1
  have h2 : c = c' := by have := h.2.2.1; cases this; rfl
  have h3 := int_last h.2.2.2.1
  have h4 : a = a' := by cases h'; rfl
  try dsimp only at h1
  try dsimp only at h3
  rw [h1, h2, h3, h4]
theorem arr1_cast {N : List AV → Mem → R} {v : List AV} {a b : List Int} {r : AV × Mem} (h : N v [(0, .arr I b false)] = some r) (e : a = b) : N v [(0, .arr I a false)] = some r := by subst e; exact h
theorem cpL_ok (L : List (Nat × (List AV → Mem → XK → R))) : LoopOK (rco [retKey] [] ((9, cpL) :: L) fx48) (loopB 9 (codeOf fx48)) cpL := by
  refine loopP_ok cpL_inj (fun x => x.ys.length - (x.q + x.j)) ?_
  rintro ⟨ys, k, q, j⟩ K r N ⟨hb, hq, hj, hk⟩ hN hf
  try dsimp only at hb
  try dsimp only at hq
  try dsimp only at hj
  try dsimp only at hk
  try dsimp only at hN
  try dsimp only at hf
  dsimp only
  rcases Nat.lt_or_ge (q + j) ys.length with h | h
  · obtain ⟨n, hn⟩ : ∃ n, ys.length - (q + j) = n + 1 := ⟨ys.length - (q + j) - 1, by omega⟩
    rw [hn, cpN, List.getElem?_eq_getElem h] at hf
    have hn' : ys.length - (q + (j + 1)) = n := by omega
    dsimp only at hf
    obtain ⟨j, rfl⟩ : ∃ i, j = i + 1 := ⟨j - 1, by omega⟩
    obtain ⟨a, ha⟩ : ∃ a, ys[q + (j + 1)] = a := ⟨_, rfl⟩
    obtain ⟨b, hb'⟩ : ∃ b, ys[q + j] = b := ⟨_, rfl⟩
    rw [ha, show q + (j + 1) - 1 = q + j by omega, getD_nth' ys (q + j) _ (by omega), hb'] at hf
    cases hc : a == b with
    | true =>
      rw [hc, cond_true] at hf
      have hab : a = b := by simpa using hc
      conv => lhs; whnf
      repeat' ((first | split | ((conv => lhs; arg 3; whnf); split)) <;> first | (exfalso; rename_i hx; first | (simp (disch := omega) [leavesIds, V.leaves, Leaf.ids, mem?, nbeq, Ty.width, wrap_id, View.lenN, View.off, View.len_eq, sees_tail, sees_sub, rec_k, tn1, tn2, tn3, tn4, tn5, tn6, ha, hb', hab] at hx; done) | (simp (disch := omega) [leavesIds, V.leaves, Leaf.ids, mem?, nbeq, Ty.width, wrap_id, View.lenN, View.off, View.len_eq, sees_tail, sees_sub, rec_k, tn1, tn2, tn3, tn4, tn5, tn6, ha, hb', hab] at hx; omega) | (refine absurd (hx.symm.trans ?_) Bool.false_ne_true; (try simp only [Bool.and_eq_true, decide_eq_true_eq]); (try simp (disch := omega) [leavesIds, V.leaves, Leaf.ids, mem?, nbeq, Ty.width, wrap_id, View.lenN, View.off, View.len_eq, sees_tail, sees_sub, rec_k, tn1, tn2, tn3, tn4, tn5, tn6, ha, hb', hab]); (try omega); done) | omega) | (rename_i he; cases he; conv => lhs; whnf) | (conv => lhs; whnf))
      rewrite [succ_w (i := j + 1) (by omega)]
      exact (hN ⟨ys, k, q, j + 1 + 1⟩ ⟨hb, hq, by simp only; omega, by simp only; omega⟩ (by simp only; omega)).trans (by simp only [hn', Nat.add_assoc] at hf ⊢; exact hf)
    | false =>
      rw [hc, cond_false] at hf
      have hab : ¬ a = b := by simpa using hc
      conv => lhs; whnf
      repeat' ((first | split | ((conv => lhs; arg 3; whnf); split)) <;> first | (exfalso; rename_i hx; first | (simp (disch := omega) [leavesIds, V.leaves, Leaf.ids, mem?, nbeq, Ty.width, wrap_id, View.lenN, View.off, View.len_eq, sees_tail, sees_sub, rec_k, tn1, tn2, tn3, tn4, tn5, tn6, ha, hb', hab] at hx; done) | (simp (disch := omega) [leavesIds, V.leaves, Leaf.ids, mem?, nbeq, Ty.width, wrap_id, View.lenN, View.off, View.len_eq, sees_tail, sees_sub, rec_k, tn1, tn2, tn3, tn4, tn5, tn6, ha, hb', hab] at hx; omega) | (refine absurd (hx.symm.trans ?_) Bool.false_ne_true; (try simp only [Bool.and_eq_true, decide_eq_true_eq]); (try simp (disch := omega) [leavesIds, V.leaves, Leaf.ids, mem?, nbeq, Ty.width, wrap_id, View.lenN, View.off, View.len_eq, sees_tail, sees_sub, rec_k, tn1, tn2, tn3, tn4, tn5, tn6, ha, hb', hab]); (try omega); done) | omega) | (rename_i he; cases he; conv => lhs; whnf) | (conv => lhs; whnf))
      rewrite [succ_w (i := j + 1) (by omega), succ_w (i := k) (by omega)]
      refine arr1_cast ((hN ⟨ys.set k a, k + 1, q, j + 1 + 1⟩ ⟨by simpa using hb, by simpa using hq, by simp only; omega, by simp only; omega⟩ (by simp only [List.length_set]; omega)).trans (by simp only [List.length_set, hn', Nat.add_assoc] at hf ⊢; exact hf)) ?_
      simp (disch := omega) [leavesIds, V.leaves, Leaf.ids, mem?, nbeq, Ty.width, wrap_id, View.lenN, View.off, View.len_eq, sees_tail, sees_sub, rec_k, tn1, tn2, tn3, tn4, tn5, tn6, ha]
  · rw [show ys.length - (q + j) = 0 by omega, cpN] at hf
    conv => lhs; whnf
    (split <;> first | (exfalso; rename_i hx; first | (simp (disch := omega) [leavesIds, V.leaves, Leaf.ids, mem?, nbeq, Ty.width, wrap_id, View.lenN, View.off, View.len_eq, sees_tail, sees_sub, rec_k, tn1, tn2, tn3, tn4, tn5, tn6] at hx; done) | (simp (disch := omega) [leavesIds, V.leaves, Leaf.ids, mem?, nbeq, Ty.width, wrap_id, View.lenN, View.off, View.len_eq, sees_tail, sees_sub, rec_k, tn1, tn2, tn3, tn4, tn5, tn6] at hx; omega) | (refine absurd (hx.symm.trans ?_) Bool.false_ne_true; (try simp only [Bool.and_eq_true, decide_eq_true_eq]); (try simp (disch := omega) [leavesIds, V.leaves, Leaf.ids, mem?, nbeq, Ty.width, wrap_id, View.lenN, View.off, View.len_eq, sees_tail, sees_sub, rec_k, tn1, tn2, tn3, tn4, tn5, tn6]); (try omega); done) | omega) | (conv => lhs; whnf))
    exact hf

def dupN : Nat → List Int → Nat → Option Nat
  | 0, _, _ => none
  | n + 1, ys, k => match ys[k]? with
    | some y => bif y == ys.getD (k - 1) 0 then some k else dupN n ys (k + 1)
    | none => none
theorem dupN_spec : ∀ (n : Nat) (ys : List Int) (k : Nat) (x : Int), 1 ≤ k → k ≤ ys.length → ys.length ≤ k + n → ys[k - 1]? = some x →
    match dupN n ys k with
    | none => cpT x (ys.drop k) = ys.drop k
    | some j => k ≤ j ∧ ∃ h : j < ys.length, cpT x (ys.drop k) = (ys.drop k).take (j - k) ++ cpT ys[j] (ys.drop (j + 1))
  | 0, ys, k, x, h1, h2, h3, h4 => by
    simp only [dupN]
    rw [List.drop_eq_nil_of_le (by omega), cpT]
  | n + 1, ys, k, x, h1, h2, h3, h4 => by
    rw [dupN]
    cases hy : ys[k]? with
    | none =>
      have := List.getElem?_eq_none_iff.mp hy
      dsimp only
      rw [List.drop_eq_nil_of_le this, cpT]
    | some y =>
      obtain ⟨hk, hy'⟩ := List.getElem?_eq_some_iff.mp hy
      have hx : ys.getD (k - 1) 0 = x := by rw [List.getD_eq_getElem?_getD, h4]; rfl
      dsimp only
      rw [hx]
      cases he : y == x with
      | true =>
        have : y = x := by simpa using he
        subst this
        simp only [cond_true]
        refine ⟨Nat.le_refl _, hk, ?_⟩
        rw [List.drop_eq_getElem_cons hk, hy', cpT]
        simp
      | false =>
        simp only [cond_false]
        have ih := dupN_spec n ys (k + 1) y (by omega) (by omega) (by omega) (by rw [Nat.add_sub_cancel]; exact hy)
        have hd : cpT x (ys.drop k) = y :: cpT y (ys.drop (k + 1)) := by rw [List.drop_eq_getElem_cons hk, hy', cpT, he]; rfl
        cases hdn : dupN n ys (k + 1) with
        | none =>
          rw [hdn] at ih
          dsimp only at ih ⊢
          rw [hd, ih, List.drop_eq_getElem_cons hk, hy']
        | some j =>
          rw [hdn] at ih
          dsimp only at ih ⊢
          obtain ⟨g1, g2, g3⟩ := ih
          refine ⟨by omega, g2, ?_⟩
          rw [hd, g3, List.drop_eq_getElem_cons hk, hy', show j - k = (j - (k + 1)) + 1 by omega]
          rfl
structure CU where
  ys : List Int
  k : Nat
noncomputable def cuL := loopP (α := CU) (fun x => [refA 0, .one (.int .i64 x.k)]) (fun x => [(0, .arr I x.ys false)]) (fun x => x.ys.length ≤ 1048576 ∧ 1 ≤ x.k)
  (fun x K => match dupN (x.ys.length - x.k) x.ys x.k with
    | none => K.exit 0 [refA 0] [(0, .arr I x.ys false)]
    | some j => K.ret [refA 100000001] [(0, .dead), (100000001, .arr I (x.ys.take j ++ cpT (x.ys.getD j 0) (x.ys.drop (j + 1))) false)])
theorem cuL_inj (x y : CU) (h : [refA 0, .one (.int .i64 x.k)] = [refA 0, .one (.int .i64 y.k)]) (h' : [(0, Obj.arr I x.ys false)] = [(0, Obj.arr I y.ys false)]) : x = y := by
  obtain ⟨a, b⟩ := x
  obtain ⟨a', b'⟩ := y
  simp only [List.cons.injEq] at h
  have h1 := int_last h.2.1
  have h4 : a = a' := by cases h'; rfl
  try dsimp only at h1
  rw [h1, h4]
theorem ret_cast {K : XK} {a b : List Int} {v : List AV} {i j : Nat} {r : AV × Mem} (h : K.ret v [(i, .dead), (j, .arr I b false)] = some r) (e : a = b) : K.ret v [(i, .dead), (j, .arr I a false)] = some r := by subst e; exact h
theorem cuL_ok : LoopOK (rco [retKey] [] [(9, cpL), (4, cuL)] fx48) (loopB 4 (codeOf fx48)) cuL := by
  refine loopP_ok cuL_inj (fun x => x.ys.length - x.k) ?_
  rintro ⟨ys, k⟩ K r N ⟨hb, hk⟩ hN hf
  try dsimp only at hb
  try dsimp only at hk
  try dsimp only at hN
  try dsimp only at hf
  dsimp only
  rcases Nat.lt_or_ge k ys.length with h | h
  · obtain ⟨n, hn⟩ : ∃ n, ys.length - k = n + 1 := ⟨ys.length - k - 1, by omega⟩
    rw [hn, dupN, List.getElem?_eq_getElem h] at hf
    have hn' : ys.length - (k + 1) = n := by omega
    obtain ⟨k, rfl⟩ : ∃ i, k = i + 1 := ⟨k - 1, by omega⟩
    obtain ⟨a, ha⟩ : ∃ a, ys[k + 1] = a := ⟨_, rfl⟩
    obtain ⟨b, hb'⟩ : ∃ b, ys[k] = b := ⟨_, rfl⟩
    rw [ha, Nat.add_sub_cancel] at hf
    dsimp only at hf
    rw [getD_nth' ys k _ (by omega), hb'] at hf
    cases hc : a == b with
    | true =>
      rw [hc, cond_true] at hf
      have hab : a = b := by simpa using hc
      dsimp only at hf
      rw [getD_nth' ys (k + 1) _ h, ha] at hf
      obtain ⟨g1, g2, g3⟩ := cpN_spec (ys.length - (k + 1 + 1)) ys (k + 1) (k + 1 + 1) a (by omega) (by omega) (by omega) (by omega) (by rw [Nat.add_sub_cancel, List.getElem?_eq_getElem h, ha])
      rw [← g3] at hf
      conv => lhs; whnf
      repeat' ((first | split | ((conv => lhs; arg 3; whnf); split)) <;> first | (exfalso; rename_i hx; first | (simp (disch := omega) [leavesIds, V.leaves, Leaf.ids, mem?, nbeq, Ty.width, wrap_id, View.lenN, View.off, View.len_eq, sees_tail, sees_sub, rec_k, tn1, tn2, tn3, tn4, tn5, tn6, ha, hb', hab] at hx; done) | (simp (disch := omega) [leavesIds, V.leaves, Leaf.ids, mem?, nbeq, Ty.width, wrap_id, View.lenN, View.off, View.len_eq, sees_tail, sees_sub, rec_k, tn1, tn2, tn3, tn4, tn5, tn6, ha, hb', hab] at hx; omega) | (refine absurd (hx.symm.trans ?_) Bool.false_ne_true; (try simp only [Bool.and_eq_true, decide_eq_true_eq]); (try simp (disch := omega) [leavesIds, V.leaves, Leaf.ids, mem?, nbeq, Ty.width, wrap_id, View.lenN, View.off, View.len_eq, sees_tail, sees_sub, rec_k, tn1, tn2, tn3, tn4, tn5, tn6, ha, hb', hab]); (try omega); done) | omega) | (rename_i he; cases he; conv => lhs; whnf) | (conv => lhs; whnf))
      rewrite [show (0 + ((k + 1 : Nat) : Int).toNat) = k + 1 by omega]
      refine (loopP_eq cpL_inj (x := ⟨ys, k + 1, k + 1, 1⟩) ⟨hb, by simp only; omega, by simp only; omega, by simp only; omega⟩ _).trans ?_
      dsimp only
      generalize cpN (ys.length - (k + 1 + 1)) ys (k + 1) (k + 1 + 1) = D at *
      obtain ⟨zs, m⟩ := D
      replace g1 : zs.length = ys.length := g1
      replace g2 : m ≤ ys.length := g2
      dsimp only at hf
      conv => lhs; whnf
      repeat' ((first | split | ((conv => lhs; arg 3; whnf); split)) <;> first | (exfalso; rename_i hx; first | (simp (disch := omega) [leavesIds, V.leaves, Leaf.ids, mem?, nbeq, Ty.width, wrap_id, View.lenN, View.off, View.len_eq, sees_tail, sees_sub, rec_k, tn1, tn2, tn3, tn4, tn5, tn6, g1] at hx; done) | (simp (disch := omega) [leavesIds, V.leaves, Leaf.ids, mem?, nbeq, Ty.width, wrap_id, View.lenN, View.off, View.len_eq, sees_tail, sees_sub, rec_k, tn1, tn2, tn3, tn4, tn5, tn6, g1] at hx; omega) | (refine absurd (hx.symm.trans ?_) Bool.false_ne_true; (try simp only [Bool.and_eq_true, decide_eq_true_eq]); (try simp (disch := omega) [leavesIds, V.leaves, Leaf.ids, mem?, nbeq, Ty.width, wrap_id, View.lenN, View.off, View.len_eq, sees_tail, sees_sub, rec_k, tn1, tn2, tn3, tn4, tn5, tn6, g1]); (try omega); done) | omega) | (rename_i he; cases he; conv => lhs; whnf) | (conv => lhs; whnf))
      all_goals (refine ret_cast hf ?_; simp (disch := omega) [leavesIds, V.leaves, Leaf.ids, mem?, nbeq, Ty.width, wrap_id, View.lenN, View.off, View.len_eq, sees_tail, sees_sub, rec_k, tn1, tn2, tn3, tn4, tn5, tn6, List.take_append, List.drop_append, List.take_of_length_le, List.drop_of_length_le, g1, List.take_take])
    | false =>
      rw [hc, cond_false] at hf
      have hab : ¬ a = b := by simpa using hc
      conv => lhs; whnf
      repeat' ((first | split | ((conv => lhs; arg 3; whnf); split)) <;> first | (exfalso; rename_i hx; first | (simp (disch := omega) [leavesIds, V.leaves, Leaf.ids, mem?, nbeq, Ty.width, wrap_id, View.lenN, View.off, View.len_eq, sees_tail, sees_sub, rec_k, tn1, tn2, tn3, tn4, tn5, tn6, ha, hb', hab] at hx; done) | (simp (disch := omega) [leavesIds, V.leaves, Leaf.ids, mem?, nbeq, Ty.width, wrap_id, View.lenN, View.off, View.len_eq, sees_tail, sees_sub, rec_k, tn1, tn2, tn3, tn4, tn5, tn6, ha, hb', hab] at hx; omega) | (refine absurd (hx.symm.trans ?_) Bool.false_ne_true; (try simp only [Bool.and_eq_true, decide_eq_true_eq]); (try simp (disch := omega) [leavesIds, V.leaves, Leaf.ids, mem?, nbeq, Ty.width, wrap_id, View.lenN, View.off, View.len_eq, sees_tail, sees_sub, rec_k, tn1, tn2, tn3, tn4, tn5, tn6, ha, hb', hab]); (try omega); done) | omega) | (rename_i he; cases he; conv => lhs; whnf) | (conv => lhs; whnf))
      rewrite [succ_w (i := k + 1) (by omega)]
      exact (hN ⟨ys, k + 1 + 1⟩ ⟨hb, by simp only; omega⟩ (by simp only; omega)).trans (by simpa only [hn'] using hf)
  · rw [show ys.length - k = 0 by omega, dupN] at hf
    conv => lhs; whnf
    (split <;> first | (exfalso; rename_i hx; first | (simp (disch := omega) [leavesIds, V.leaves, Leaf.ids, mem?, nbeq, Ty.width, wrap_id, View.lenN, View.off, View.len_eq, sees_tail, sees_sub, rec_k, tn1, tn2, tn3, tn4, tn5, tn6] at hx; done) | (simp (disch := omega) [leavesIds, V.leaves, Leaf.ids, mem?, nbeq, Ty.width, wrap_id, View.lenN, View.off, View.len_eq, sees_tail, sees_sub, rec_k, tn1, tn2, tn3, tn4, tn5, tn6] at hx; omega) | (refine absurd (hx.symm.trans ?_) Bool.false_ne_true; (try simp only [Bool.and_eq_true, decide_eq_true_eq]); (try simp (disch := omega) [leavesIds, V.leaves, Leaf.ids, mem?, nbeq, Ty.width, wrap_id, View.lenN, View.off, View.len_eq, sees_tail, sees_sub, rec_k, tn1, tn2, tn3, tn4, tn5, tn6]); (try omega); done) | omega) | (conv => lhs; whnf))
    exact hf
def pCompactI : List AV → Mem → AK → R := fun args m k =>
  match args, m with
  | [.val (.one (.ref 0 (.tail 0) none))], [(0, .arr (.int .i64) xs false)] => gd (decide (xs.length ≤ 1048576)) (k (refA 100000001) [(0, .dead), (100000001, .arr I (compactF xs) false)])
  | _, _ => none
theorem compactI_ok : COK Try.prog 48 pCompactI := by
  refine ⟨CallOK.weaken (fno_ok (x := fx48) (own := [retKey]) (H := []) (L := [(9, cpL), (4, cuL)]) rfl rfl trivial (by kernel_rfl) ⟨cpL_ok _, cuL_ok, trivial⟩).ok fun args m k r h => ?_⟩
  unfold pCompactI at h
  split at h
  · rename_i xs
    obtain ⟨hb, h⟩ := gd_some.mp h
    simp only [decide_eq_true_eq] at hb
    rcases xs with _ | ⟨x, _ | ⟨y, xs⟩⟩
    · conv => lhs; whnf
      repeat' ((first | split | ((conv => lhs; arg 3; whnf); split)) <;> first | (exfalso; rename_i hx; first | (simp (disch := omega) [leavesIds, V.leaves, Leaf.ids, mem?, nbeq, Ty.width, wrap_id, View.lenN, View.off, View.len_eq, sees_tail, sees_sub, rec_k, tn1, tn2, tn3, tn4, tn5, tn6] at hx; done) | (simp (disch := omega) [leavesIds, V.leaves, Leaf.ids, mem?, nbeq, Ty.width, wrap_id, View.lenN, View.off, View.len_eq, sees_tail, sees_sub, rec_k, tn1, tn2, tn3, tn4, tn5, tn6] at hx; omega) | (refine absurd (hx.symm.trans ?_) Bool.false_ne_true; (try simp only [Bool.and_eq_true, decide_eq_true_eq]); (try simp (disch := omega) [leavesIds, V.leaves, Leaf.ids, mem?, nbeq, Ty.width, wrap_id, View.lenN, View.off, View.len_eq, sees_tail, sees_sub, rec_k, tn1, tn2, tn3, tn4, tn5, tn6]); (try omega); done) | omega) | (rename_i he; cases he; conv => lhs; whnf) | (conv => lhs; whnf))
      exact h
    · conv => lhs; whnf
      repeat' ((first | split | ((conv => lhs; arg 3; whnf); split)) <;> first | (exfalso; rename_i hx; first | (simp (disch := omega) [leavesIds, V.leaves, Leaf.ids, mem?, nbeq, Ty.width, wrap_id, View.lenN, View.off, View.len_eq, sees_tail, sees_sub, rec_k, tn1, tn2, tn3, tn4, tn5, tn6] at hx; done) | (simp (disch := omega) [leavesIds, V.leaves, Leaf.ids, mem?, nbeq, Ty.width, wrap_id, View.lenN, View.off, View.len_eq, sees_tail, sees_sub, rec_k, tn1, tn2, tn3, tn4, tn5, tn6] at hx; omega) | (refine absurd (hx.symm.trans ?_) Bool.false_ne_true; (try simp only [Bool.and_eq_true, decide_eq_true_eq]); (try simp (disch := omega) [leavesIds, V.leaves, Leaf.ids, mem?, nbeq, Ty.width, wrap_id, View.lenN, View.off, View.len_eq, sees_tail, sees_sub, rec_k, tn1, tn2, tn3, tn4, tn5, tn6]); (try omega); done) | omega) | (rename_i he; cases he; conv => lhs; whnf) | (conv => lhs; whnf))
      exact h
    · simp only [List.length_cons] at hb
      conv => lhs; whnf
      refine (loopP_eq cuL_inj (x := ⟨x :: y :: xs, 1⟩) ⟨by simpa using hb, by simp only; omega⟩ _).trans ?_
      have hs := dupN_spec ((x :: y :: xs).length - 1) (x :: y :: xs) 1 x (by omega) (by simp) (by simp; omega) rfl
      dsimp only
      rw [compactF_cpT] at h
      cases hd : dupN ((x :: y :: xs).length - 1) (x :: y :: xs) 1 with
      | none =>
        rw [hd] at hs
        replace hs : cpT x (y :: xs) = y :: xs := hs
        rw [hs] at h
        conv => lhs; whnf
        exact h
      | some j =>
        rw [hd] at hs
        dsimp only at hs
        obtain ⟨h1, h2, h3⟩ := hs
        replace h3 : cpT x (y :: xs) = (y :: xs).take (j - 1) ++ cpT (x :: y :: xs)[j] ((x :: y :: xs).drop (j + 1)) := h3
        rw [h3] at h
        conv => lhs; whnf
        rw [getD_nth' _ j _ h2]
        obtain ⟨j, rfl⟩ : ∃ i, j = i + 1 := ⟨j - 1, by omega⟩
        exact h
  · cases h
end Go.Ev.Tab

/- Contracts of searches with a predicate in lists that nobody writes. Printed by gen/l5.py. Own work. -/
set_option maxRecDepth 100000
set_option maxHeartbeats 1000000
set_option linter.unusedVariables false
namespace Go.Ev.Tab
open Go Go.Ev.X Go.Proofs
theorem any_idxP {α : Type} (p : α → Bool) (xs : List α) : xs.any p = (idxP p xs 0).isSome := by
  suffices h : ∀ n, xs.any p = (idxP p xs n).isSome from h 0
  induction xs with
  | nil => intro n; rfl
  | cons x xs ih =>
    intro n
    simp only [List.any_cons, idxP]
    cases p x with
    | true => rfl
    | false => simpa using ih (n + 1)

/-! ### locks.blocked$1: in a list that nobody writes -/
noncomputable def qBl : List GG × List GG × Nat → GG → Bool := hide fun e x => conflict x (e.2.1.getD e.2.2 g0)
theorem qBl_eq (e : List GG × List GG × Nat) (x : GG) : qBl e x = (conflict x (e.2.1.getD e.2.2 g0)) := by unfold qBl; rw [hide_eq]
noncomputable def pBl : List AV → Mem → AK → R := fun args m k =>
  match args, m with
  | [.val (.agg [.int .i64 a, .int .i64 b, .int .i64 c, .int .i64 d]), .val (.one (.ptr 0 0 none)), .val (.one (.ptr 1 0 none))], [(0, .box false [.sl (.pair (.int .i64) (.pair (.pair (.int .i64) (.int .i64)) (.int .i64))) us none none, .sl (.pair (.int .i64) (.pair (.pair (.int .i64) (.int .i64)) (.int .i64))) ws none none]), (1, .box false [.int .i64 (.ofNat n)])] => gd (Nat.blt n ws.length) (k (.one (.bool (qBl (us, ws, n) (a, (b, c), d)))) [(0, .box false [.sl G us none none, .sl G ws none none]), (1, .box false [.int .i64 (n : Nat)])])
  | _, _ => none
theorem pBl_ok : COK Try.prog 64 pBl := by
  refine ⟨CallOK.weaken (fn_ok (x := fx64) (H := [(41, pConflict)]) (L := []) rfl rfl ⟨lconflict_ok, trivial⟩ (by kernel_rfl) trivial).ok fun args m k r h => ?_⟩
  unfold pBl at h
  split at h
  · obtain ⟨hpre, h⟩ := gd_some.mp h
    have hpre := Nat.le_of_ble_eq_true hpre
    refine Eq.trans ?_ h
    conv => lhs; whnf
    repeat' ((first | split | ((conv => lhs; arg 3; whnf); split)) <;> first | (exfalso; rename_i hx; first | (simp (disch := omega) [leavesIds, V.leaves, Leaf.ids, mem?, nbeq, Ty.width, wrap_id, View.lenN, View.off, View.len_eq, sees_tail, sees_sub, rec_k, tn1, tn2, tn3, tn4, tn5, tn6] at hx; done) | (simp (disch := omega) [leavesIds, V.leaves, Leaf.ids, mem?, nbeq, Ty.width, wrap_id, View.lenN, View.off, View.len_eq, sees_tail, sees_sub, rec_k, tn1, tn2, tn3, tn4, tn5, tn6] at hx; omega) | (refine absurd (hx.symm.trans ?_) Bool.false_ne_true; (try simp only [Bool.and_eq_true, decide_eq_true_eq]); (try simp (disch := omega) [leavesIds, V.leaves, Leaf.ids, mem?, nbeq, Ty.width, wrap_id, View.lenN, View.off, View.len_eq, sees_tail, sees_sub, rec_k, tn1, tn2, tn3, tn4, tn5, tn6]); (try omega); done) | omega) | (rename_i he; cases he; conv => lhs; whnf) | (conv => lhs; whnf))
    all_goals exact kbool (by rewrite [qBl_eq]; first | rfl | (rw [Bool.eq_iff_iff]; simp_all [beq_pair, beq_int]; done) | (simp_all [beq_pair, beq_int]; done) | (rw [Bool.eq_iff_iff]; simp_all [beq_pair, beq_int]; omega))
  · cases h
noncomputable def ifBlL (xs : List GG) (us ws : List GG) (n : Nat) := loopP (α := Nat) (fun i => [.one (.sl G xs none none), .one (.fn 64 [] [0, 1]), .one (.int .i64 xs.length), .one (.int .i64 i)]) (fun _ => [(0, .box false [.sl G us none none, .sl G ws none none]), (1, .box false [.int .i64 (n : Nat)])]) (fun _ => xs.length ≤ 1048576 ∧ (Nat.blt n ws.length) = true)
  (fun i K => match idxP (qBl (us, ws, n)) (xs.drop i) i with | some j => K.ret [.one (.int .i64 (j : Nat))] [(0, .box false [.sl G us none none, .sl G ws none none]), (1, .box false [.int .i64 (n : Nat)])] | none => K.exit 0 [] [(0, .box false [.sl G us none none, .sl G ws none none]), (1, .box false [.int .i64 (n : Nat)])])
theorem ifBlL_ok (xs : List GG) (us ws : List GG) (n : Nat) : LoopOK (rc [(64, pBl)] [(2, ifBlL xs us ws n)] fx44) (loopB 2 (codeOf fx44)) (ifBlL xs us ws n) := by
  refine loopP_ok (fun x y h _ => by simp only [List.cons.injEq] at h; exact int_last h.2.2.2.1) (fun i => xs.length - i) ?_
  intro i K r N hb hN hf
  try dsimp only at hb
  try dsimp only at hN
  try dsimp only at hf
  have hpre := hb.2
  rcases Nat.lt_or_ge i xs.length with h | h
  · have e1 := lt_t h
    have e2 := ix_t (a := G.width) (b := 4) rfl h
    rw [drop_nth xs i h, idxP] at hf
    conv => lhs; whnf
    rw [e1]
    conv => lhs; whnf
    rw [e2]
    conv => lhs; whnf
    rw [hpre]
    conv => lhs; whnf
    rw [getD_nth xs i _ h]
    split
    · rename_i h0
      have h0 : qBl (us, ws, n) xs[i] = true := h0
      rw [h0] at hf
      conv => lhs; whnf
      exact hf
    · rename_i h0
      have h0 : qBl (us, ws, n) xs[i] = false := h0
      rw [h0] at hf
      conv => lhs; whnf
      rw [succ_w (by omega)]
      exact (hN (i + 1) hb (by omega)).trans hf
  · rw [List.drop_eq_nil_of_le h, idxP] at hf
    conv => lhs; whnf
    rw [lt_f h]
    conv => lhs; whnf
    exact hf
noncomputable def pifBl : List AV → Mem → AK → R := fun args m k =>
  match args, m with
  | [.val (.one (.sl (.pair (.int .i64) (.pair (.pair (.int .i64) (.int .i64)) (.int .i64))) xs none none)), .val (.one (.fn 64 [] [0, 1]))], [(0, .box false [.sl (.pair (.int .i64) (.pair (.pair (.int .i64) (.int .i64)) (.int .i64))) us none none, .sl (.pair (.int .i64) (.pair (.pair (.int .i64) (.int .i64)) (.int .i64))) ws none none]), (1, .box false [.int .i64 (.ofNat n)])] =>
    gd (decide (xs.length ≤ 1048576) && (Nat.blt n ws.length)) (k (.one (.int .i64 (idxI (qBl (us, ws, n)) xs))) [(0, .box false [.sl G us none none, .sl G ws none none]), (1, .box false [.int .i64 (n : Nat)])])
  | _, _ => none
theorem pifBl_ok : COK Try.prog 44 pifBl := by
  refine ⟨CallOK.weakenD fun args m k r h => ?_⟩
  unfold pifBl at h
  split at h
  · rename_i xs us ws n
    obtain ⟨hb, h⟩ := gd_some.mp h
    simp only [Bool.and_eq_true] at hb
    obtain ⟨hb, hpre⟩ := hb
    simp only [decide_eq_true_eq] at hb
    refine ⟨_, (fn_ok (x := fx44) (H := [(64, pBl)]) (L := [(2, ifBlL xs us ws n)]) rfl rfl ⟨pBl_ok, trivial⟩ (by kernel_rfl) ⟨ifBlL_ok xs us ws n, trivial⟩).ok, ?_⟩
    conv => lhs; whnf
    refine (loopP_eq (fun x y h _ => by simp only [List.cons.injEq] at h; exact int_last h.2.2.2.1) (x := 0) ⟨hb, by simpa using hpre⟩ _).trans ?_
    dsimp only
    rw [List.drop_zero]
    simp only [idxI] at h
    cases hi : idxP (qBl (us, ws, n)) xs 0 with
    | none =>
      rw [hi] at h
      conv => lhs; whnf
      exact h
    | some j =>
      rw [hi] at h
      conv => lhs; whnf
      exact h
  · cases h
noncomputable def pcfBl : List AV → Mem → AK → R := fun args m k =>
  match args, m with
  | [.val (.one (.sl (.pair (.int .i64) (.pair (.pair (.int .i64) (.int .i64)) (.int .i64))) xs none none)), .val (.one (.fn 64 [] [0, 1]))], [(0, .box false [.sl (.pair (.int .i64) (.pair (.pair (.int .i64) (.int .i64)) (.int .i64))) us none none, .sl (.pair (.int .i64) (.pair (.pair (.int .i64) (.int .i64)) (.int .i64))) ws none none]), (1, .box false [.int .i64 (.ofNat n)])] =>
    gd (decide (xs.length ≤ 1048576) && (Nat.blt n ws.length)) (k (.one (.bool (xs.any (qBl (us, ws, n))))) [(0, .box false [.sl G us none none, .sl G ws none none]), (1, .box false [.int .i64 (n : Nat)])])
  | _, _ => none
theorem pcfBl_ok : COK Try.prog 42 pcfBl := by
  refine ⟨CallOK.weaken (fn_ok (x := fx42) (H := [(44, pifBl)]) (L := []) rfl rfl ⟨pifBl_ok, trivial⟩ (by kernel_rfl) trivial).ok fun args m k r h => ?_⟩
  unfold pcfBl at h
  split at h
  · rename_i xs us ws n
    obtain ⟨hb, h⟩ := gd_some.mp h
    rw [any_idxP] at h
    have hI : idxI (qBl (us, ws, n)) xs = match idxP (qBl (us, ws, n)) xs 0 with | some j => (j : Nat) | none => -1 := rfl
    conv => lhs; whnf
    rewrite [hb]
    conv => lhs; whnf
    rewrite [hI]
    cases hi : idxP (qBl (us, ws, n)) xs 0 with
    | none =>
      rw [hi] at h
      conv => lhs; whnf
      exact h
    | some j =>
      rw [hi] at h
      conv => lhs; whnf
      exact h
  · cases h

/-! ### locks.Waiting$1: in a list that nobody writes -/
noncomputable def qWt : Int → GG → Bool := hide fun e x => x.1 == e
theorem qWt_eq (e : Int) (x : GG) : qWt e x = (x.1 == e) := by unfold qWt; rw [hide_eq]
noncomputable def pWt : List AV → Mem → AK → R := fun args m k =>
  match args, m with
  | [.val (.agg [.int .i64 a, .int .i64 b, .int .i64 c, .int .i64 d]), .val (.one (.ptr 0 0 none))], [(0, .box false [.int .i64 t])] => gd (true) (k (.one (.bool (qWt t (a, (b, c), d)))) [(0, .box false [.int .i64 t])])
  | _, _ => none
theorem pWt_ok : COK Try.prog 51 pWt := by
  refine ⟨CallOK.weaken (fn_ok (x := fx51) (H := []) (L := []) rfl rfl trivial (by kernel_rfl) trivial).ok fun args m k r h => ?_⟩
  unfold pWt at h
  split at h
  · obtain ⟨hpre, h⟩ := gd_some.mp h
    skip
    refine Eq.trans ?_ h
    conv => lhs; whnf
    repeat' ((first | split | ((conv => lhs; arg 3; whnf); split)) <;> first | (exfalso; rename_i hx; first | (simp (disch := omega) [leavesIds, V.leaves, Leaf.ids, mem?, nbeq, Ty.width, wrap_id, View.lenN, View.off, View.len_eq, sees_tail, sees_sub, rec_k, tn1, tn2, tn3, tn4, tn5, tn6] at hx; done) | (simp (disch := omega) [leavesIds, V.leaves, Leaf.ids, mem?, nbeq, Ty.width, wrap_id, View.lenN, View.off, View.len_eq, sees_tail, sees_sub, rec_k, tn1, tn2, tn3, tn4, tn5, tn6] at hx; omega) | (refine absurd (hx.symm.trans ?_) Bool.false_ne_true; (try simp only [Bool.and_eq_true, decide_eq_true_eq]); (try simp (disch := omega) [leavesIds, V.leaves, Leaf.ids, mem?, nbeq, Ty.width, wrap_id, View.lenN, View.off, View.len_eq, sees_tail, sees_sub, rec_k, tn1, tn2, tn3, tn4, tn5, tn6]); (try omega); done) | omega) | (rename_i he; cases he; conv => lhs; whnf) | (conv => lhs; whnf))
    all_goals exact kbool (by rewrite [qWt_eq]; first | rfl | (rw [Bool.eq_iff_iff]; simp_all [beq_pair, beq_int]; done) | (simp_all [beq_pair, beq_int]; done) | (rw [Bool.eq_iff_iff]; simp_all [beq_pair, beq_int]; omega))
  · cases h
noncomputable def ifWtL (xs : List GG) (t : Int) := loopP (α := Nat) (fun i => [.one (.sl G xs none none), .one (.fn 51 [] [0]), .one (.int .i64 xs.length), .one (.int .i64 i)]) (fun _ => [(0, .box false [.int .i64 t])]) (fun _ => xs.length ≤ 1048576 ∧ (true) = true)
  (fun i K => match idxP (qWt t) (xs.drop i) i with | some j => K.ret [.one (.int .i64 (j : Nat))] [(0, .box false [.int .i64 t])] | none => K.exit 0 [] [(0, .box false [.int .i64 t])])
theorem ifWtL_ok (xs : List GG) (t : Int) : LoopOK (rc [(51, pWt)] [(2, ifWtL xs t)] fx44) (loopB 2 (codeOf fx44)) (ifWtL xs t) := by
  refine loopP_ok (fun x y h _ => by simp only [List.cons.injEq] at h; exact int_last h.2.2.2.1) (fun i => xs.length - i) ?_
  intro i K r N hb hN hf
  try dsimp only at hb
  try dsimp only at hN
  try dsimp only at hf
  have hpre := hb.2
  rcases Nat.lt_or_ge i xs.length with h | h
  · have e1 := lt_t h
    have e2 := ix_t (a := G.width) (b := 4) rfl h
    rw [drop_nth xs i h, idxP] at hf
    conv => lhs; whnf
    rw [e1]
    conv => lhs; whnf
    rw [e2]
    conv => lhs; whnf
    skip
    rw [getD_nth xs i _ h]
    split
    · rename_i h0
      have h0 : qWt t xs[i] = true := h0
      rw [h0] at hf
      conv => lhs; whnf
      exact hf
    · rename_i h0
      have h0 : qWt t xs[i] = false := h0
      rw [h0] at hf
      conv => lhs; whnf
      rw [succ_w (by omega)]
      exact (hN (i + 1) hb (by omega)).trans hf
  · rw [List.drop_eq_nil_of_le h, idxP] at hf
    conv => lhs; whnf
    rw [lt_f h]
    conv => lhs; whnf
    exact hf
noncomputable def pifWt : List AV → Mem → AK → R := fun args m k =>
  match args, m with
  | [.val (.one (.sl (.pair (.int .i64) (.pair (.pair (.int .i64) (.int .i64)) (.int .i64))) xs none none)), .val (.one (.fn 51 [] [0]))], [(0, .box false [.int .i64 t])] =>
    gd (decide (xs.length ≤ 1048576) && (true)) (k (.one (.int .i64 (idxI (qWt t) xs))) [(0, .box false [.int .i64 t])])
  | _, _ => none
theorem pifWt_ok : COK Try.prog 44 pifWt := by
  refine ⟨CallOK.weakenD fun args m k r h => ?_⟩
  unfold pifWt at h
  split at h
  · rename_i xs t
    obtain ⟨hb, h⟩ := gd_some.mp h
    simp only [Bool.and_eq_true] at hb
    obtain ⟨hb, hpre⟩ := hb
    simp only [decide_eq_true_eq] at hb
    refine ⟨_, (fn_ok (x := fx44) (H := [(51, pWt)]) (L := [(2, ifWtL xs t)]) rfl rfl ⟨pWt_ok, trivial⟩ (by kernel_rfl) ⟨ifWtL_ok xs t, trivial⟩).ok, ?_⟩
    conv => lhs; whnf
    refine (loopP_eq (fun x y h _ => by simp only [List.cons.injEq] at h; exact int_last h.2.2.2.1) (x := 0) ⟨hb, by simpa using hpre⟩ _).trans ?_
    dsimp only
    rw [List.drop_zero]
    simp only [idxI] at h
    cases hi : idxP (qWt t) xs 0 with
    | none =>
      rw [hi] at h
      conv => lhs; whnf
      exact h
    | some j =>
      rw [hi] at h
      conv => lhs; whnf
      exact h
  · cases h
noncomputable def pcfWt : List AV → Mem → AK → R := fun args m k =>
  match args, m with
  | [.val (.one (.sl (.pair (.int .i64) (.pair (.pair (.int .i64) (.int .i64)) (.int .i64))) xs none none)), .val (.one (.fn 51 [] [0]))], [(0, .box false [.int .i64 t])] =>
    gd (decide (xs.length ≤ 1048576) && (true)) (k (.one (.bool (xs.any (qWt t)))) [(0, .box false [.int .i64 t])])
  | _, _ => none
theorem pcfWt_ok : COK Try.prog 42 pcfWt := by
  refine ⟨CallOK.weaken (fn_ok (x := fx42) (H := [(44, pifWt)]) (L := []) rfl rfl ⟨pifWt_ok, trivial⟩ (by kernel_rfl) trivial).ok fun args m k r h => ?_⟩
  unfold pcfWt at h
  split at h
  · rename_i xs t
    obtain ⟨hb, h⟩ := gd_some.mp h
    rw [any_idxP] at h
    have hI : idxI (qWt t) xs = match idxP (qWt t) xs 0 with | some j => (j : Nat) | none => -1 := rfl
    conv => lhs; whnf
    rewrite [hb]
    conv => lhs; whnf
    rewrite [hI]
    cases hi : idxP (qWt t) xs 0 with
    | none =>
      rw [hi] at h
      conv => lhs; whnf
      exact h
    | some j =>
      rw [hi] at h
      conv => lhs; whnf
      exact h
  · cases h

/-! ### waits.blockers$1: in a list that nobody writes -/
noncomputable def qBk : Int → GG → Bool := hide fun e x => x.1 == e
theorem qBk_eq (e : Int) (x : GG) : qBk e x = (x.1 == e) := by unfold qBk; rw [hide_eq]
noncomputable def pBk : List AV → Mem → AK → R := fun args m k =>
  match args, m with
  | [.val (.agg [.int .i64 a, .int .i64 b, .int .i64 c, .int .i64 d]), .val (.one (.ptr 0 0 none))], [(0, .box false [.int .i64 t])] => gd (true) (k (.one (.bool (qBk t (a, (b, c), d)))) [(0, .box false [.int .i64 t])])
  | _, _ => none
theorem pBk_ok : COK Try.prog 45 pBk := by
  refine ⟨CallOK.weaken (fn_ok (x := fx45) (H := []) (L := []) rfl rfl trivial (by kernel_rfl) trivial).ok fun args m k r h => ?_⟩
  unfold pBk at h
  split at h
  · obtain ⟨hpre, h⟩ := gd_some.mp h
    skip
    refine Eq.trans ?_ h
    conv => lhs; whnf
    repeat' ((first | split | ((conv => lhs; arg 3; whnf); split)) <;> first | (exfalso; rename_i hx; first | (simp (disch := omega) [leavesIds, V.leaves, Leaf.ids, mem?, nbeq, Ty.width, wrap_id, View.lenN, View.off, View.len_eq, sees_tail, sees_sub, rec_k, tn1, tn2, tn3, tn4, tn5, tn6] at hx; done) | (simp (disch := omega) [leavesIds, V.leaves, Leaf.ids, mem?, nbeq, Ty.width, wrap_id, View.lenN, View.off, View.len_eq, sees_tail, sees_sub, rec_k, tn1, tn2, tn3, tn4, tn5, tn6] at hx; omega) | (refine absurd (hx.symm.trans ?_) Bool.false_ne_true; (try simp only [Bool.and_eq_true, decide_eq_true_eq]); (try simp (disch := omega) [leavesIds, V.leaves, Leaf.ids, mem?, nbeq, Ty.width, wrap_id, View.lenN, View.off, View.len_eq, sees_tail, sees_sub, rec_k, tn1, tn2, tn3, tn4, tn5, tn6]); (try omega); done) | omega) | (rename_i he; cases he; conv => lhs; whnf) | (conv => lhs; whnf))
    all_goals exact kbool (by rewrite [qBk_eq]; first | rfl | (rw [Bool.eq_iff_iff]; simp_all [beq_pair, beq_int]; done) | (simp_all [beq_pair, beq_int]; done) | (rw [Bool.eq_iff_iff]; simp_all [beq_pair, beq_int]; omega))
  · cases h
noncomputable def ifBkL (xs : List GG) (t : Int) := loopP (α := Nat) (fun i => [.one (.sl G xs none none), .one (.fn 45 [] [0]), .one (.int .i64 xs.length), .one (.int .i64 i)]) (fun _ => [(0, .box false [.int .i64 t])]) (fun _ => xs.length ≤ 1048576 ∧ (true) = true)
  (fun i K => match idxP (qBk t) (xs.drop i) i with | some j => K.ret [.one (.int .i64 (j : Nat))] [(0, .box false [.int .i64 t])] | none => K.exit 0 [] [(0, .box false [.int .i64 t])])
theorem ifBkL_ok (xs : List GG) (t : Int) : LoopOK (rc [(45, pBk)] [(2, ifBkL xs t)] fx44) (loopB 2 (codeOf fx44)) (ifBkL xs t) := by
  refine loopP_ok (fun x y h _ => by simp only [List.cons.injEq] at h; exact int_last h.2.2.2.1) (fun i => xs.length - i) ?_
  intro i K r N hb hN hf
  try dsimp only at hb
  try dsimp only at hN
  try dsimp only at hf
  have hpre := hb.2
  rcases Nat.lt_or_ge i xs.length with h | h
  · have e1 := lt_t h
    have e2 := ix_t (a := G.width) (b := 4) rfl h
    rw [drop_nth xs i h, idxP] at hf
    conv => lhs; whnf
    rw [e1]
    conv => lhs; whnf
    rw [e2]
    conv => lhs; whnf
    skip
    rw [getD_nth xs i _ h]
    split
    · rename_i h0
      have h0 : qBk t xs[i] = true := h0
      rw [h0] at hf
      conv => lhs; whnf
      exact hf
    · rename_i h0
      have h0 : qBk t xs[i] = false := h0
      rw [h0] at hf
      conv => lhs; whnf
      rw [succ_w (by omega)]
      exact (hN (i + 1) hb (by omega)).trans hf
  · rw [List.drop_eq_nil_of_le h, idxP] at hf
    conv => lhs; whnf
    rw [lt_f h]
    conv => lhs; whnf
    exact hf
noncomputable def pifBk : List AV → Mem → AK → R := fun args m k =>
  match args, m with
  | [.val (.one (.sl (.pair (.int .i64) (.pair (.pair (.int .i64) (.int .i64)) (.int .i64))) xs none none)), .val (.one (.fn 45 [] [0]))], [(0, .box false [.int .i64 t])] =>
    gd (decide (xs.length ≤ 1048576) && (true)) (k (.one (.int .i64 (idxI (qBk t) xs))) [(0, .box false [.int .i64 t])])
  | _, _ => none
theorem pifBk_ok : COK Try.prog 44 pifBk := by
  refine ⟨CallOK.weakenD fun args m k r h => ?_⟩
  unfold pifBk at h
  split at h
  · rename_i xs t
    obtain ⟨hb, h⟩ := gd_some.mp h
    simp only [Bool.and_eq_true] at hb
    obtain ⟨hb, hpre⟩ := hb
    simp only [decide_eq_true_eq] at hb
    refine ⟨_, (fn_ok (x := fx44) (H := [(45, pBk)]) (L := [(2, ifBkL xs t)]) rfl rfl ⟨pBk_ok, trivial⟩ (by kernel_rfl) ⟨ifBkL_ok xs t, trivial⟩).ok, ?_⟩
    conv => lhs; whnf
    refine (loopP_eq (fun x y h _ => by simp only [List.cons.injEq] at h; exact int_last h.2.2.2.1) (x := 0) ⟨hb, by simpa using hpre⟩ _).trans ?_
    dsimp only
    rw [List.drop_zero]
    simp only [idxI] at h
    cases hi : idxP (qBk t) xs 0 with
    | none =>
      rw [hi] at h
      conv => lhs; whnf
      exact h
    | some j =>
      rw [hi] at h
      conv => lhs; whnf
      exact h
  · cases h
noncomputable def pcfBk : List AV → Mem → AK → R := fun args m k =>
  match args, m with
  | [.val (.one (.sl (.pair (.int .i64) (.pair (.pair (.int .i64) (.int .i64)) (.int .i64))) xs none none)), .val (.one (.fn 45 [] [0]))], [(0, .box false [.int .i64 t])] =>
    gd (decide (xs.length ≤ 1048576) && (true)) (k (.one (.bool (xs.any (qBk t)))) [(0, .box false [.int .i64 t])])
  | _, _ => none
theorem pcfBk_ok : COK Try.prog 42 pcfBk := by
  refine ⟨CallOK.weaken (fn_ok (x := fx42) (H := [(44, pifBk)]) (L := []) rfl rfl ⟨pifBk_ok, trivial⟩ (by kernel_rfl) trivial).ok fun args m k r h => ?_⟩
  unfold pcfBk at h
  split at h
  · rename_i xs t
    obtain ⟨hb, h⟩ := gd_some.mp h
    rw [any_idxP] at h
    have hI : idxI (qBk t) xs = match idxP (qBk t) xs 0 with | some j => (j : Nat) | none => -1 := rfl
    conv => lhs; whnf
    rewrite [hb]
    conv => lhs; whnf
    rewrite [hI]
    cases hi : idxP (qBk t) xs 0 with
    | none =>
      rw [hi] at h
      conv => lhs; whnf
      exact h
    | some j =>
      rw [hi] at h
      conv => lhs; whnf
      exact h
  · cases h
end Go.Ev.Tab

/- Contracts of the table of locks: own lists, who is blocked. Own work. -/
set_option maxRecDepth 100000
set_option maxHeartbeats 1000000
set_option linter.unusedVariables false
namespace Go.Ev.Tab
open Go Go.Ev.X Go.Proofs

/-- A contract over plain data; what comes out may be new objects. -/
def dataP (ts : List Ty) (F : Ts ts → AK → R) : List AV → Mem → AK → R := fun args m k =>
  match m, unTs ts args with
  | [], some x => F x k
  | _, _ => none
theorem data_cok {P : Program} {f : FuncId} {b : List AV → Mem → AK → R} {ts : List Ty} {F : Ts ts → AK → R} (hb : COK P f b)
    (h : ∀ x k r, BoundedTs ts x → F x k = some r → b (avTs ts x) [] k = some r) : COK P f (dataP ts F) := by
  refine ⟨fun {ok μ m w args vs k r} hS hx hp => ?_⟩
  unfold dataP at hp
  split at hp
  · rename_i x hu
    obtain ⟨hrep, hbnd⟩ := unTs_rep (μ' := μ) (m' := []) hu hx
    exact hb.ok hS hrep (h x k r hbnd hp)
  · simp at hp

/-! ### lists of its own -/
def pOwn := dataP [TB] fun x k => gd (decide (x.1.1.length ≤ 1048576) && decide (x.1.2.length ≤ 1048576))
  (k (.agg [.ref 100000000 (.tail 0) none, .ref 100000001 (.tail 0) none]) [(100000000, .arr G x.1.1 false), (100000001, .arr G x.1.2 false)])
theorem own_ok : COK Try.prog 32 pOwn := by
  refine data_cok (fn_ok (x := fx32) (H := [(53, pClone G)]) (L := []) rfl rfl ⟨cloneG_ok, trivial⟩ (by kernel_rfl) trivial) ?_
  rintro ⟨⟨xs, ws⟩, u⟩ k r hb h
  obtain ⟨h1, h⟩ := gd_some.mp h
  simp only [Bool.and_eq_true, decide_eq_true_eq] at h1
  obtain ⟨h1, h2⟩ := h1
  replace h1 : List.length xs ≤ 1048576 := h1
  replace h2 : List.length ws ≤ 1048576 := h2
  conv => lhs; whnf
  repeat' ((first | split | ((conv => lhs; arg 3; whnf); split)) <;> first | (exfalso; rename_i hx; first | (simp (disch := omega) [leavesIds, V.leaves, Leaf.ids, mem?, nbeq, Ty.width, wrap_id, View.lenN, View.off, View.len_eq, sees_tail, sees_sub, rec_k, tn1, tn2, tn3, tn4, tn5, tn6] at hx; done) | (simp (disch := omega) [leavesIds, V.leaves, Leaf.ids, mem?, nbeq, Ty.width, wrap_id, View.lenN, View.off, View.len_eq, sees_tail, sees_sub, rec_k, tn1, tn2, tn3, tn4, tn5, tn6] at hx; omega) | (refine absurd (hx.symm.trans ?_) Bool.false_ne_true; (try simp only [Bool.and_eq_true, decide_eq_true_eq]); (try simp (disch := omega) [leavesIds, V.leaves, Leaf.ids, mem?, nbeq, Ty.width, wrap_id, View.lenN, View.off, View.len_eq, sees_tail, sees_sub, rec_k, tn1, tn2, tn3, tn4, tn5, tn6]); (try omega); done) | omega) | (rename_i he; cases he; conv => lhs; whnf) | (conv => lhs; whnf))
  exact h

/-! ### who is blocked -/
def blkF (xs ws : List GG) (n : Nat) : Bool := xs.any (fun g => conflict g (ws.getD n g0)) || (ws.take n).any (fun g => conflict g (ws.getD n g0))
def pBlocked := pureP [TB, I] fun x k =>
  match x.2.1 with
  | .ofNat n => gd (Nat.blt n x.1.2.length && (decide (x.1.1.length ≤ 1048576) && decide (x.1.2.length ≤ 1048576))) (k (.one (.bool (blkF x.1.1 x.1.2 n))) [])
  | _ => none
theorem qBl_fun (us ws : List GG) (n : Nat) : qBl (us, ws, n) = fun g => conflict g (ws.getD n g0) := by funext g; rw [qBl_eq]
theorem blocked_ok : COK Try.prog 56 pBlocked := by
  refine pure_cok (fn_ok (x := fx56) (H := [(42, pcfBl)]) (L := []) rfl rfl ⟨pcfBl_ok, trivial⟩ (by kernel_rfl) trivial) ?_
  rintro ⟨⟨xs, ws⟩, n, u⟩ k r hb h
  dsimp only at h
  split at h
  · rename_i n
    obtain ⟨h1, h⟩ := gd_some.mp h
    simp only [Bool.and_eq_true, decide_eq_true_eq] at h1
    obtain ⟨h1, h2, h3⟩ := h1
    replace h1 : Nat.blt n (List.length ws) = true := h1
    have h1' := Nat.le_of_ble_eq_true h1
    replace h2 : List.length xs ≤ 1048576 := h2
    replace h3 : List.length ws ≤ 1048576 := h3
    have e1 : (decide (List.length xs ≤ 1048576) && Nat.blt n (List.length ws)) = true := by rw [h1, decide_eq_true h2]; rfl
    have e2 : (decide ((List.take n ws).length ≤ 1048576) && Nat.blt n (List.length ws)) = true := by rw [h1, decide_eq_true (by rw [List.length_take]; omega)]; rfl
    have hf := qBl_fun xs ws n
    unfold blkF at h
    rw [← hf] at h
    refine Eq.trans ?_ h
    conv => lhs; whnf
    repeat' ((first | split | ((conv => lhs; arg 3; whnf); split)) <;> first | (exfalso; rename_i hx; first | (simp (disch := omega) [leavesIds, V.leaves, Leaf.ids, mem?, nbeq, Ty.width, wrap_id, View.lenN, View.off, View.len_eq, sees_tail, sees_sub, rec_k, tn1, tn2, tn3, tn4, tn5, tn6, h1, h2, h3] at hx; done) | (simp (disch := omega) [leavesIds, V.leaves, Leaf.ids, mem?, nbeq, Ty.width, wrap_id, View.lenN, View.off, View.len_eq, sees_tail, sees_sub, rec_k, tn1, tn2, tn3, tn4, tn5, tn6, h1, h2, h3] at hx; omega) | (refine absurd (hx.symm.trans ?_) Bool.false_ne_true; (try simp only [Bool.and_eq_true, decide_eq_true_eq]); (try simp (disch := omega) [leavesIds, V.leaves, Leaf.ids, mem?, nbeq, Ty.width, wrap_id, View.lenN, View.off, View.len_eq, sees_tail, sees_sub, rec_k, tn1, tn2, tn3, tn4, tn5, tn6, h1, h2, h3]); (try omega); done) | omega) | (rename_i he; cases he; conv => lhs; whnf) | (conv => lhs; whnf))
    all_goals exact kbool (by simp_all)
  · cases h
end Go.Ev.Tab

/- The table of locks settles: the contract. Own work. -/
set_option maxRecDepth 100000
set_option maxHeartbeats 1000000
set_option linter.unusedVariables false
namespace Go.Ev.Tab
open Go Go.Ev.X Go.Proofs

/-- A grant among those that are held. -/
def grantF (xs : List GG) (g : GG) : List GG :=
  bif bsHit xs (g.1, g.2.1, 0) then xs.set (bs xs (g.1, g.2.1, 0)) ((xs.getD (bs xs (g.1, g.2.1, 0)) g0).1, (xs.getD (bs xs (g.1, g.2.1, 0)) g0).2.1, g.2.2)
  else ins xs (bs xs (g.1, g.2.1, 0)) g
theorem grantF_len (xs : List GG) (g : GG) : (grantF xs g).length ≤ xs.length + 1 := by
  unfold grantF
  cases bsHit xs (g.1, g.2.1, 0) with
  | true => simp
  | false => simp [ins]; omega
def innF : Nat → List GG → List GG → Nat → Bool → List GG × List GG × Bool
  | 0, xs, ws, _, c => (xs, ws, c)
  | n + 1, xs, ws, i, c =>
    if i < ws.length then (bif blkF xs ws i then innF n xs ws (i + 1) c else innF n (grantF xs (ws.getD i g0)) (ws.take i ++ ws.drop (i + 1)) i true) else (xs, ws, c)
theorem innF_eq : ∀ (n m : Nat) (xs ws : List GG) (i : Nat) (c : Bool), ws.length ≤ i + n → ws.length ≤ i + m → innF n xs ws i c = innF m xs ws i c
  | 0, 0, xs, ws, i, c, _, _ => rfl
  | 0, m + 1, xs, ws, i, c, h, _ => by rw [innF, innF, if_neg (by omega)]
  | n + 1, 0, xs, ws, i, c, _, h => by rw [innF, innF, if_neg (by omega)]
  | n + 1, m + 1, xs, ws, i, c, h1, h2 => by
    rw [innF, innF]
    split
    · cases blkF xs ws i with
      | true => exact innF_eq n m _ _ _ _ (by omega) (by omega)
      | false => exact innF_eq n m _ _ _ _ (by simp; omega) (by simp; omega)
    · rfl
theorem innF_step (xs ws : List GG) (i : Nat) (c : Bool) (h : i < ws.length) : innF (ws.length - i) xs ws i c =
    bif blkF xs ws i then innF (ws.length - (i + 1)) xs ws (i + 1) c else innF ((ws.take i ++ ws.drop (i + 1)).length - i) (grantF xs (ws.getD i g0)) (ws.take i ++ ws.drop (i + 1)) i true := by
  obtain ⟨n, hn⟩ : ∃ n, ws.length - i = n + 1 := ⟨ws.length - i - 1, by omega⟩
  rw [hn, innF, if_pos h]
  cases blkF xs ws i with
  | true => exact innF_eq _ _ _ _ _ _ (by omega) (by omega)
  | false => exact innF_eq _ _ _ _ _ _ (by simp; omega) (by simp; omega)
/-- Nothing is lost; and what has changed has gone over. -/
theorem innF_len : ∀ (n : Nat) (xs ws : List GG) (i : Nat) (c : Bool), (innF n xs ws i c).1.length + (innF n xs ws i c).2.1.length ≤ xs.length + ws.length ∧ (innF n xs ws i c).2.1.length ≤ ws.length ∧
    ((innF n xs ws i c).2.2 = true → c = true ∨ (innF n xs ws i c).2.1.length < ws.length)
  | 0, xs, ws, i, c => ⟨Nat.le_refl _, Nat.le_refl _, fun h => .inl h⟩
  | n + 1, xs, ws, i, c => by
    rw [innF]
    split
    · rename_i h
      cases blkF xs ws i with
      | true => exact innF_len n xs ws (i + 1) c
      | false =>
        have hl : (ws.take i ++ ws.drop (i + 1)).length + 1 = ws.length := by simp; omega
        have hg := grantF_len xs (ws.getD i g0)
        obtain ⟨h1, h2, h3⟩ := innF_len n (grantF xs (ws.getD i g0)) (ws.take i ++ ws.drop (i + 1)) i true
        simp only [cond_false]
        exact ⟨by omega, by omega, fun _ => .inr (by omega)⟩
    · exact ⟨Nat.le_refl _, Nat.le_refl _, fun h => .inl h⟩
def outF : Nat → List GG → List GG → List GG × List GG
  | 0, xs, ws => (xs, ws)
  | n + 1, xs, ws => bif (innF ws.length xs ws 0 false).2.2 then outF n (innF ws.length xs ws 0 false).1 (innF ws.length xs ws 0 false).2.1 else ((innF ws.length xs ws 0 false).1, (innF ws.length xs ws 0 false).2.1)
theorem outF_eq : ∀ (n m : Nat) (xs ws : List GG), ws.length < n → ws.length < m → outF n xs ws = outF m xs ws
  | 0, _, xs, ws, h, _ => absurd h (by omega)
  | _ + 1, 0, xs, ws, _, h => absurd h (by omega)
  | n + 1, m + 1, xs, ws, h1, h2 => by
    rw [outF, outF]
    have hl := (innF_len ws.length xs ws 0 false).2.2
    cases hc : (innF ws.length xs ws 0 false).2.2 with
    | false => rfl
    | true =>
      rcases hl hc with h | h
      · cases h
      · exact outF_eq n m _ _ (by omega) (by omega)
/-- The table when all that can be held is held. -/
def settleF (xs ws : List GG) : List GG × List GG := outF (ws.length + 1) xs ws
theorem settleF_step (xs ws : List GG) : settleF xs ws = bif (innF ws.length xs ws 0 false).2.2 then settleF (innF ws.length xs ws 0 false).1 (innF ws.length xs ws 0 false).2.1 else ((innF ws.length xs ws 0 false).1, (innF ws.length xs ws 0 false).2.1) := by
  unfold settleF
  rw [outF]
  have hl := (innF_len ws.length xs ws 0 false).2.2
  cases hc : (innF ws.length xs ws 0 false).2.2 with
  | false => rfl
  | true =>
    rcases hl hc with h | h
    · cases h
    · exact outF_eq _ _ _ _ (by omega) (by omega)

structure SS where
  xs : List GG
  ws : List GG
  i : Nat
  c : Bool
abbrev sP (i : Nat) : AV := .one (.ptr i 0 none)
abbrev sM (xs ws : List GG) : Mem := [(0, .dead), (1, .dead), (100000002, .box false [.ref 100000004 (.tail 0) none, .ref 100000005 (.tail 0) none]), (100000003, .box false [.ref 100000006 (.tail 0) none, .ref 100000007 (.tail 0) none]),
  (100000004, .arr G xs false), (100000005, .arr G ws false), (100000006, .arr G [] false), (100000007, .arr G [] false)]
theorem sM_inj {a b c d : List GG} (h : sM a b = sM c d) : a = c ∧ b = d := by cases h; exact ⟨rfl, rfl⟩
theorem bool_inj {a b : Bool} (h : AV.one (.bool a) = AV.one (.bool b)) : a = b := by cases h; rfl
noncomputable def siL5 := loopP (α := SS) (fun x => [sP 100000002, sP 100000003, .one (.bool x.c), .one (.int .i64 x.i)]) (fun x => sM x.xs x.ws) (fun x => x.xs.length + x.ws.length ≤ 1000000)
  (fun x K => K.exit 2 [sP 100000002, sP 100000003, .one (.bool (innF (x.ws.length - x.i) x.xs x.ws x.i x.c).2.2)] (sM (innF (x.ws.length - x.i) x.xs x.ws x.i x.c).1 (innF (x.ws.length - x.i) x.xs x.ws x.i x.c).2.1))
theorem siL5_inj (x y : SS) (h : [sP 100000002, sP 100000003, .one (.bool x.c), .one (.int .i64 x.i)] = [sP 100000002, sP 100000003, .one (.bool y.c), .one (.int .i64 y.i)]) (h' : sM x.xs x.ws = sM y.xs y.ws) : x = y := by
  obtain ⟨a, b, c, d⟩ := x
  obtain ⟨a', b', c', d'⟩ := y
  simp only [List.cons.injEq] at h
  have h1 := bool_inj h.2.2.1
  have h2 := int_last h.2.2.2.1
  obtain ⟨h3, h4⟩ := sM_inj h'
  try dsimp only at h1
  try dsimp only at h2
  try dsimp only at h3
  try dsimp only at h4
  rw [h1, h2, h3, h4]
structure SU where
  xs : List GG
  ws : List GG
  c : Bool
noncomputable def siL2 := loopP (α := SU) (fun x => [sP 100000002, sP 100000003, .one (.bool x.c)]) (fun x => sM x.xs x.ws) (fun x => x.xs.length + x.ws.length ≤ 1000000)
  (fun x K => K.exit 0 [sP 100000002, sP 100000003] (sM (bif x.c then settleF x.xs x.ws else (x.xs, x.ws)).1 (bif x.c then settleF x.xs x.ws else (x.xs, x.ws)).2))
theorem siL2_inj (x y : SU) (h : [sP 100000002, sP 100000003, .one (.bool x.c)] = [sP 100000002, sP 100000003, .one (.bool y.c)]) (h' : sM x.xs x.ws = sM y.xs y.ws) : x = y := by
  obtain ⟨a, b, c⟩ := x
  obtain ⟨a', b', c'⟩ := y
  simp only [List.cons.injEq] at h
  have h1 := bool_inj h.2.2.1
  obtain ⟨h3, h4⟩ := sM_inj h'
  try dsimp only at h1
  try dsimp only at h3
  try dsimp only at h4
  rw [h1, h3, h4]
noncomputable abbrev setRC : RC := rco [2, 5, retKey] [(56, pBlocked), (57, pDelete G), (52, pFind), (33, pInsert G)] [(2, siL2), (5, siL5)] fx35
theorem sM_cast {N : List AV → Mem → R} {v : List AV} {a a' b b' : List GG} {r : AV × Mem} (h : N v (sM a b) = some r) (ea : a' = a) (eb : b' = b) : N v (sM a' b') = some r := by subst ea; subst eb; exact h
theorem siL5_ok : LoopOK setRC (loopB 5 (codeOf fx35)) siL5 := by
  refine loopP_ok siL5_inj (fun x => x.ws.length - x.i) ?_
  rintro ⟨xs, ws, i, c⟩ K r N hb hN hf
  replace hb : xs.length + ws.length ≤ 1000000 := hb
  try dsimp only at hN
  try dsimp only at hf
  dsimp only
  rcases Nat.lt_or_ge i ws.length with h | h
  · rw [innF_step xs ws i c h] at hf
    have e1 : (Nat.blt i ws.length && (decide (xs.length ≤ 1048576) && decide (ws.length ≤ 1048576))) = true := by
      rw [decide_eq_true (show xs.length ≤ 1048576 by omega), decide_eq_true (show ws.length ≤ 1048576 by omega), show Nat.blt i ws.length = true from Nat.ble_eq_true_of_le h]; rfl
    have e2 : decide ((i : Int) < ((View.tail 0).len ws : Nat)) = true := lt_t h
    conv => lhs; whnf
    split
    rotate_left
    · rename_i hx
      exact tf (e2) hx
    conv => lhs; whnf
    split
    rotate_left
    · rename_i hx
      exact tf (e1) hx
    conv => lhs; whnf
    split
    · rename_i h0
      have h0 : blkF xs ws i = true := h0
      rw [h0] at hf
      conv => lhs; whnf
      rewrite [succ_w (i := i) (by omega)]
      exact (hN ⟨xs, ws, i + 1, c⟩ hb (by simp only; omega)).trans hf
    · rename_i h0
      have h0 : blkF xs ws i = false := h0
      rw [h0, cond_false] at hf
      have hgl := grantF_len xs (ws.getD i g0)
      have hfin : ∀ a b : List GG, a = grantF xs (ws.getD i g0) → b = ws.take i ++ ws.drop (i + 1) → N [sP 100000002, sP 100000003, .one (.bool true), .one (.int .i64 i)] (sM a b) = some r := by
        rintro a b rfl rfl
        have hl : (ws.take i ++ ws.drop (i + 1)).length + 1 = ws.length := by simp; omega
        exact (hN ⟨grantF xs (ws.getD i g0), ws.take i ++ ws.drop (i + 1), i, true⟩ (by simp only; omega) (by simp only; omega)).trans hf
      clear hN hf
      rw [getD_nth' ws i _ h] at hfin hgl
      obtain ⟨⟨ga, ⟨gb, gc⟩, gd⟩, hg⟩ : ∃ g, ws[i] = g := ⟨_, rfl⟩
      rw [hg] at hfin hgl
      unfold grantF at hfin
      dsimp only at hfin
      have hle := bsN_le xs (ga, (gb, gc), 0) xs.length 0 xs.length (Nat.zero_le _)
      change bs xs (ga, (gb, gc), 0) ≤ xs.length at hle
      cases hh : bsHit xs (ga, (gb, gc), 0) with
      | true =>
        have hlt := bsHit_lt hh
        rw [hh, cond_true, getD_nth' xs _ _ hlt] at hfin
        obtain ⟨⟨xa, ⟨xb, xc⟩, xd⟩, hx⟩ : ∃ g, xs[bs xs (ga, (gb, gc), 0)] = g := ⟨_, rfl⟩
        rw [hx] at hfin
        conv => lhs; whnf
        repeat' ((first | split | ((conv => lhs; arg 3; whnf); split)) <;> first | (exfalso; rename_i hx; first | (simp (disch := omega) [leavesIds, V.leaves, Leaf.ids, mem?, nbeq, Ty.width, wrap_id, View.lenN, View.off, View.len_eq, sees_tail, sees_sub, rec_k, tn1, tn2, tn3, tn4, tn5, tn6, hg, hh] at hx; done) | (simp (disch := omega) [leavesIds, V.leaves, Leaf.ids, mem?, nbeq, Ty.width, wrap_id, View.lenN, View.off, View.len_eq, sees_tail, sees_sub, rec_k, tn1, tn2, tn3, tn4, tn5, tn6, hg, hh] at hx; omega) | (refine absurd (hx.symm.trans ?_) Bool.false_ne_true; (try simp only [Bool.and_eq_true, decide_eq_true_eq]); (try simp (disch := omega) [leavesIds, V.leaves, Leaf.ids, mem?, nbeq, Ty.width, wrap_id, View.lenN, View.off, View.len_eq, sees_tail, sees_sub, rec_k, tn1, tn2, tn3, tn4, tn5, tn6, hg, hh]); (try omega); done) | omega) | (rename_i he; cases he; conv => lhs; whnf) | (conv => lhs; whnf))
        refine hfin _ _ ?_ ?_
        all_goals simp (disch := omega) [leavesIds, V.leaves, Leaf.ids, mem?, nbeq, Ty.width, wrap_id, View.lenN, View.off, View.len_eq, sees_tail, sees_sub, rec_k, tn1, tn2, tn3, tn4, tn5, tn6, hg, hx]
      | false =>
        rw [hh, cond_false] at hfin
        conv => lhs; whnf
        repeat' ((first | split | ((conv => lhs; arg 3; whnf); split)) <;> first | (exfalso; rename_i hx; first | (simp (disch := omega) [leavesIds, V.leaves, Leaf.ids, mem?, nbeq, Ty.width, wrap_id, View.lenN, View.off, View.len_eq, sees_tail, sees_sub, rec_k, tn1, tn2, tn3, tn4, tn5, tn6, hg, hh] at hx; done) | (simp (disch := omega) [leavesIds, V.leaves, Leaf.ids, mem?, nbeq, Ty.width, wrap_id, View.lenN, View.off, View.len_eq, sees_tail, sees_sub, rec_k, tn1, tn2, tn3, tn4, tn5, tn6, hg, hh] at hx; omega) | (refine absurd (hx.symm.trans ?_) Bool.false_ne_true; (try simp only [Bool.and_eq_true, decide_eq_true_eq]); (try simp (disch := omega) [leavesIds, V.leaves, Leaf.ids, mem?, nbeq, Ty.width, wrap_id, View.lenN, View.off, View.len_eq, sees_tail, sees_sub, rec_k, tn1, tn2, tn3, tn4, tn5, tn6, hg, hh]); (try omega); done) | omega) | (rename_i he; cases he; conv => lhs; whnf) | (conv => lhs; whnf))
        refine hfin _ _ ?_ ?_
        all_goals simp (disch := omega) [leavesIds, V.leaves, Leaf.ids, mem?, nbeq, Ty.width, wrap_id, View.lenN, View.off, View.len_eq, sees_tail, sees_sub, rec_k, tn1, tn2, tn3, tn4, tn5, tn6, hg]
  · rw [show ws.length - i = 0 by omega, innF] at hf
    conv => lhs; whnf
    (split <;> first | (exfalso; rename_i hx; first | (simp (disch := omega) [leavesIds, V.leaves, Leaf.ids, mem?, nbeq, Ty.width, wrap_id, View.lenN, View.off, View.len_eq, sees_tail, sees_sub, rec_k, tn1, tn2, tn3, tn4, tn5, tn6] at hx; done) | (simp (disch := omega) [leavesIds, V.leaves, Leaf.ids, mem?, nbeq, Ty.width, wrap_id, View.lenN, View.off, View.len_eq, sees_tail, sees_sub, rec_k, tn1, tn2, tn3, tn4, tn5, tn6] at hx; omega) | (refine absurd (hx.symm.trans ?_) Bool.false_ne_true; (try simp only [Bool.and_eq_true, decide_eq_true_eq]); (try simp (disch := omega) [leavesIds, V.leaves, Leaf.ids, mem?, nbeq, Ty.width, wrap_id, View.lenN, View.off, View.len_eq, sees_tail, sees_sub, rec_k, tn1, tn2, tn3, tn4, tn5, tn6]); (try omega); done) | omega) | (conv => lhs; whnf))
    exact hf
theorem siL2_ok : LoopOK setRC (loopB 2 (codeOf fx35)) siL2 := by
  refine loopP_ok siL2_inj (fun x => bif x.c then x.ws.length + 1 else 0) ?_
  rintro ⟨xs, ws, c⟩ K r N hb hN hf
  replace hb : xs.length + ws.length ≤ 1000000 := hb
  try dsimp only at hN
  try dsimp only at hf
  dsimp only
  cases c with
  | false =>
    conv => lhs; whnf
    exact hf
  | true =>
    rw [cond_true, settleF_step] at hf
    obtain ⟨h1, h2, h3⟩ := innF_len ws.length xs ws 0 false
    conv => lhs; whnf
    refine (loopP_eq siL5_inj (x := ⟨xs, ws, 0, false⟩) hb _).trans ?_
    dsimp only
    rw [Nat.sub_zero]
    generalize innF ws.length xs ws 0 false = D at *
    obtain ⟨xs', ws', c'⟩ := D
    dsimp only at h1 h2 h3
    conv => lhs; whnf
    refine (hN ⟨xs', ws', c'⟩ (by simp only; omega) ?_).trans hf
    dsimp only
    cases c' with
    | false => simp
    | true =>
      rcases h3 rfl with h | h
      · cases h
      · simpa using h
def pSettle : List AV → Mem → AK → R := fun args m k =>
  match args, m with
  | [.val (.agg [.ref 0 (.tail 0) none, .ref 1 (.tail 0) none])], [(0, .arr (.pair (.int .i64) (.pair (.pair (.int .i64) (.int .i64)) (.int .i64))) xs false), (1, .arr (.pair (.int .i64) (.pair (.pair (.int .i64) (.int .i64)) (.int .i64))) ws false)] =>
    gd (decide (xs.length + ws.length ≤ 1000000)) (k (.agg [.ref 100000002 (.tail 0) none, .ref 100000003 (.tail 0) none]) [(0, .dead), (1, .dead), (100000002, .arr G (settleF xs ws).1 false), (100000003, .arr G (settleF xs ws).2 false)])
  | _, _ => none
theorem settle_ok : COK Try.prog 35 pSettle := by
  refine ⟨CallOK.weaken (fno_ok (x := fx35) (own := [2, 5, retKey]) (H := [(56, pBlocked), (57, pDelete G), (52, pFind), (33, pInsert G)]) (L := [(2, siL2), (5, siL5)]) rfl rfl ⟨blocked_ok, delG_ok, find_ok, insG_ok, trivial⟩ (by kernel_rfl) ⟨siL2_ok, siL5_ok, trivial⟩).ok fun args m k r h => ?_⟩
  unfold pSettle at h
  split at h
  · rename_i xs ws
    obtain ⟨hb, h⟩ := gd_some.mp h
    simp only [decide_eq_true_eq] at hb
    conv => lhs; whnf
    refine (loopP_eq siL2_inj (x := ⟨xs, ws, true⟩) hb _).trans ?_
    dsimp only
    rw [cond_true]
    conv => lhs; whnf
    exact h
  · cases h
end Go.Ev.Tab

set_option maxRecDepth 100000
set_option linter.unusedVariables false
namespace Go.Ev.Tab
open Go Go.Ev.X Go.Proofs

/-! ### who blocks -/
def blk (w : GG) (l : List GG) : List Int := (l.filter fun g => conflict g w).map (·.1)
theorem blk_cons (w g : GG) (l : List GG) : blk w (g :: l) = bif conflict g w then g.1 :: blk w l else blk w l := by
  unfold blk
  rw [List.filter_cons]
  cases conflict g w <;> simp
abbrev nilI : AV := .one (.sl I [] (some true) (some 0))
def outV : List Int → AV
  | [] => nilI
  | _ :: _ => .one (.ref 100000001 (.tail 0) none)
def outM (xs ws l0 l1 : List GG) : List Int → Mem
  | [] => [(100000000, .box false [.sl G xs none none, .sl G ws none none]), (100000001, .arr (.sl G) [l0, l1] false)]
  | o :: os => [(100000000, .box false [.sl G xs none none, .sl G ws none none]), (100000001, .arr I (o :: os) false), (100000002, .arr (.sl G) [l0, l1] false)]
def outR : List Int → AV
  | [] => .one (.ref 100000001 (.tail 0) (some 2))
  | _ :: _ => .one (.ref 100000002 (.tail 0) (some 2))
structure BI where
  xs : List GG
  ws : List GG
  l0 : List GG
  l1 : List GG
  out : List Int
  i : Nat
  k : Nat
  l : List GG
  at' : Nat
abbrev biV (x : BI) : List AV := [.one (.ptr 100000000 0 none), .one (.int .i64 x.i), outV x.out, outR x.out, .one (.int .i64 2), .one (.int .i64 x.k), .one (.sl G x.l none none), .one (.int .i64 x.l.length), .one (.int .i64 x.at')]
abbrev biM (x : BI) : Mem := outM x.xs x.ws x.l0 x.l1 x.out
abbrev wOf (ws : List GG) (i : Nat) : GG := ws.getD i g0
abbrev boV (x : BI) (out : List Int) : List AV := [.one (.ptr 100000000 0 none), .one (.int .i64 x.i), outV out, outR out, .one (.int .i64 2), .one (.int .i64 x.k)]
noncomputable def biL := loopP biV biM (fun x => x.i < x.ws.length ∧ x.out.length + (x.l.length - x.at') ≤ 1073741824 ∧ x.l.length ≤ big)
  (fun x K => K.exit 2 (boV x (x.out ++ blk (wOf x.ws x.i) (x.l.drop x.at'))) (outM x.xs x.ws x.l0 x.l1 (x.out ++ blk (wOf x.ws x.i) (x.l.drop x.at'))))
theorem biL_inj (x y : BI) (h : biV x = biV y) (h' : biM x = biM y) : x = y := by
  obtain ⟨xs, ws, l0, l1, out, i, k, l, a⟩ := x
  obtain ⟨xs', ws', l0', l1', out', i', k', l', a'⟩ := y
  cases out <;> cases out' <;> simp_all [biM, outV, outR, outM] <;> omega
structure BO where
  xs : List GG
  ws : List GG
  l0 : List GG
  l1 : List GG
  out : List Int
  i : Nat
  k : Nat
abbrev booV (x : BO) : List AV := [.one (.ptr 100000000 0 none), .one (.int .i64 x.i), outV x.out, outR x.out, .one (.int .i64 2), .one (.int .i64 x.k)]
abbrev booM (x : BO) : Mem := outM x.xs x.ws x.l0 x.l1 x.out
def oV : List Int → AV
  | [] => nilI
  | _ :: _ => .one (.ref 100000000 (.tail 0) none)
def oM : List Int → Mem
  | [] => []
  | o :: os => [(100000000, .arr I (o :: os) false)]
def rest (w : GG) (l0 l1 : List GG) : Nat → List Int
  | 0 => blk w l0 ++ blk w l1
  | 1 => blk w l1
  | _ => []
theorem rest_0 (w : GG) (l0 l1 : List GG) : rest w l0 l1 0 = blk w l0 ++ rest w l0 l1 1 := rfl
theorem rest_1 (w : GG) (l0 l1 : List GG) : rest w l0 l1 1 = blk w l1 ++ rest w l0 l1 2 := (List.append_nil _).symm
theorem blk_len (w : GG) (l : List GG) : (blk w l).length ≤ l.length := by unfold blk; rw [List.length_map]; exact List.length_filter_le _ _
def capB : Nat → Nat
  | 0 => 0
  | 1 => 1048576
  | _ => 2097152
noncomputable def boL := loopP booV booM (fun x => x.i < x.ws.length ∧ x.k ≤ 2 ∧ x.out.length ≤ capB x.k ∧ x.l0.length ≤ 1048576 ∧ x.l1.length ≤ 1048576)
  (fun x K => K.exit 0 [oV (x.out ++ rest (wOf x.ws x.i) x.l0 x.l1 x.k)] (oM (x.out ++ rest (wOf x.ws x.i) x.l0 x.l1 x.k)))
theorem biL_ok : LoopOK (rc [(44, i45), (46, pConflict), (47, c47), (48, c48)] [(6, boL), (9, biL)] fx20) (loopB 9 (codeOf fx20)) biL := by
  refine loopP_ok biL_inj (fun x => x.l.length - x.at') ?_
  rintro ⟨xs, ws, l0, l1, out, i, k, l, idx⟩ K r N ⟨hi, ho, hb⟩ hN hf
  dsimp only at hi ho hb hN hf
  rcases Nat.lt_or_ge idx l.length with h1 | h1
  · have e1 := lt_t h1
    have e2 := ix_t (a := G.width) (b := 4) rfl h1
    have e3 := ix_t (a := G.width) (b := 4) rfl hi
    rw [drop_nth l idx h1, blk_cons] at hf
    have hg : l.getD idx g0 = l[idx] := by simp [List.getD_eq_getElem?_getD, h1]
    rw [← hg] at hf
    cases out with
    | nil =>
      conv => lhs; whnf
      rw [e1]
      conv => lhs; whnf
      rw [e2]
      conv => lhs; whnf
      conv => lhs; arg 3; whnf
      rw [e3]
      conv => lhs; whnf
      split
      · rename_i h0
        have h0 : conflict (l.getD idx g0) (wOf ws i) = true := h0
        rw [h0] at hf
        conv => lhs; whnf
        rw [succ_w (big_lt h1 hb)]
        refine (hN ⟨xs, ws, l0, l1, [(l.getD idx g0).1], i, k, l, idx + 1⟩ ⟨hi, by simp only [List.length_cons, List.length_nil] at ho ⊢; omega, hb⟩ (by simp only; omega)).trans hf
      · rename_i h0
        have h0 : conflict (l.getD idx g0) (wOf ws i) = false := h0
        rw [h0] at hf
        conv => lhs; whnf
        rw [succ_w (big_lt h1 hb)]
        refine (hN ⟨xs, ws, l0, l1, [], i, k, l, idx + 1⟩ ⟨hi, by simp only at ho ⊢; omega, hb⟩ (by simp only; omega)).trans hf
    | cons o os =>
      have e4 : (decide (((o :: os) ++ [(l.getD idx g0).1]).length * 8 ≤ 70368744177664) && decide (((o :: os) ++ [(l.getD idx g0).1]).length ≤ 1099511627776)) = true := by simp only [List.length_cons] at ho; simp; omega
      conv => lhs; whnf
      rw [e1]
      conv => lhs; whnf
      rw [e2]
      conv => lhs; whnf
      conv => lhs; arg 3; whnf
      rw [e3]
      conv => lhs; whnf
      split
      · rename_i h0
        have h0 : conflict (l.getD idx g0) (wOf ws i) = true := h0
        rw [h0] at hf
        conv => lhs; whnf
        split
        · conv => lhs; whnf
          rw [succ_w (big_lt h1 hb)]
          simp only [cond_true] at hf
          rw [List.append_cons] at hf
          refine (hN ⟨xs, ws, l0, l1, (o :: os) ++ [(l.getD idx g0).1], i, k, l, idx + 1⟩ ⟨hi, by simp only [List.length_append, List.length_cons, List.length_nil] at ho ⊢; omega, hb⟩ (by simp only; omega)).trans hf
        · rename_i hx
          exact tf e4 hx
      · rename_i h0
        have h0 : conflict (l.getD idx g0) (wOf ws i) = false := h0
        rw [h0] at hf
        conv => lhs; whnf
        rw [succ_w (big_lt h1 hb)]
        refine (hN ⟨xs, ws, l0, l1, o :: os, i, k, l, idx + 1⟩ ⟨hi, by simp only at ho ⊢; omega, hb⟩ (by simp only; omega)).trans hf
  · rw [List.drop_eq_nil_of_le h1] at hf
    simp only [blk, List.filter_nil, List.map_nil, List.append_nil] at hf
    cases out with
    | nil =>
      conv => lhs; whnf
      rw [lt_f h1]
      conv => lhs; whnf
      exact hf
    | cons o os =>
      conv => lhs; whnf
      rw [lt_f h1]
      conv => lhs; whnf
      exact hf
end Go.Ev.Tab

set_option maxRecDepth 100000
set_option linter.unusedVariables false
namespace Go.Ev.Tab
open Go Go.Ev.X Go.Proofs

theorem biL_eq (x : BI) (hx : x.i < x.ws.length ∧ x.out.length + (x.l.length - x.at') ≤ 1073741824 ∧ x.l.length ≤ big) (h0 : x.at' = 0) (K : XK) : biL (biV x) (biM x) K =
    K.exit 2 (boV x (x.out ++ blk (wOf x.ws x.i) x.l)) (outM x.xs x.ws x.l0 x.l1 (x.out ++ blk (wOf x.ws x.i) x.l)) := by
  refine (loopP_eq biL_inj hx K).trans ?_
  rw [h0, List.drop_zero]

theorem boL_inj (x y : BO) (h : booV x = booV y) (h' : booM x = booM y) : x = y := by
  obtain ⟨xs, ws, l0, l1, out, i, k⟩ := x
  obtain ⟨xs', ws', l0', l1', out', i', k'⟩ := y
  cases out <;> cases out' <;> simp_all [booM, outV, outR, outM] <;> omega
theorem boL_ok : LoopOK (rc [(44, i45), (46, pConflict), (47, c47), (48, c48)] [(6, boL), (9, biL)] fx20) (loopB 6 (codeOf fx20)) boL := by
  refine loopP_ok boL_inj (fun x => 2 - x.k) ?_
  rintro ⟨xs, ws, l0, l1, out, i, k⟩ K r N ⟨hi, hk, ho, hb0, hb1⟩ hN hf
  dsimp only at hi hk ho hb0 hb1 hN hf
  obtain rfl | rfl | rfl : k = 0 ∨ k = 1 ∨ k = 2 := by omega
  · -- 0
    cases out with
    | nil =>
      conv => lhs; whnf
      refine (biL_eq ⟨xs, ws, l0, l1, [], i, 0, l0, 0⟩ ⟨hi, by simp only [capB, List.length_nil] at ho ⊢; omega, by unfold big; simp only; omega⟩ rfl _).trans ?_
      rw [rest_0, ← List.append_assoc] at hf
      have hO2 : ([] ++ blk (wOf ws i) l0).length ≤ capB (0 + 1) := by
        have := blk_len (wOf ws i) l0
        simp only [capB, List.length_append, List.length_cons, List.length_nil] at ho ⊢; omega
      generalize [] ++ blk (wOf ws i) l0 = O at *
      cases O with
      | nil =>
        conv => lhs; whnf
        exact (hN ⟨xs, ws, l0, l1, [], i, 0 + 1⟩ ⟨hi, by simp only; omega, hO2, hb0, hb1⟩ (by simp only; omega)).trans hf
      | cons p ps =>
        conv => lhs; whnf
        exact (hN ⟨xs, ws, l0, l1, p :: ps, i, 0 + 1⟩ ⟨hi, by simp only; omega, hO2, hb0, hb1⟩ (by simp only; omega)).trans hf
    | cons o os =>
      conv => lhs; whnf
      refine (biL_eq ⟨xs, ws, l0, l1, o :: os, i, 0, l0, 0⟩ ⟨hi, by simp only [capB, List.length_cons] at ho ⊢; omega, by unfold big; simp only; omega⟩ rfl _).trans ?_
      rw [rest_0, ← List.append_assoc] at hf
      have hO2 : (o :: os ++ blk (wOf ws i) l0).length ≤ capB (0 + 1) := by
        have := blk_len (wOf ws i) l0
        simp only [capB, List.length_append, List.length_cons, List.length_nil] at ho ⊢; omega
      generalize o :: os ++ blk (wOf ws i) l0 = O at *
      cases O with
      | nil =>
        conv => lhs; whnf
        exact (hN ⟨xs, ws, l0, l1, [], i, 0 + 1⟩ ⟨hi, by simp only; omega, hO2, hb0, hb1⟩ (by simp only; omega)).trans hf
      | cons p ps =>
        conv => lhs; whnf
        exact (hN ⟨xs, ws, l0, l1, p :: ps, i, 0 + 1⟩ ⟨hi, by simp only; omega, hO2, hb0, hb1⟩ (by simp only; omega)).trans hf
  · -- 1
    cases out with
    | nil =>
      conv => lhs; whnf
      refine (biL_eq ⟨xs, ws, l0, l1, [], i, 1, l1, 0⟩ ⟨hi, by simp only [capB, List.length_nil] at ho ⊢; omega, by unfold big; simp only; omega⟩ rfl _).trans ?_
      rw [rest_1, ← List.append_assoc] at hf
      have hO2 : ([] ++ blk (wOf ws i) l1).length ≤ capB (1 + 1) := by
        have := blk_len (wOf ws i) l1
        simp only [capB, List.length_append, List.length_cons, List.length_nil] at ho ⊢; omega
      generalize [] ++ blk (wOf ws i) l1 = O at *
      cases O with
      | nil =>
        conv => lhs; whnf
        exact (hN ⟨xs, ws, l0, l1, [], i, 1 + 1⟩ ⟨hi, by simp only; omega, hO2, hb0, hb1⟩ (by simp only; omega)).trans hf
      | cons p ps =>
        conv => lhs; whnf
        exact (hN ⟨xs, ws, l0, l1, p :: ps, i, 1 + 1⟩ ⟨hi, by simp only; omega, hO2, hb0, hb1⟩ (by simp only; omega)).trans hf
    | cons o os =>
      conv => lhs; whnf
      refine (biL_eq ⟨xs, ws, l0, l1, o :: os, i, 1, l1, 0⟩ ⟨hi, by simp only [capB, List.length_cons] at ho ⊢; omega, by unfold big; simp only; omega⟩ rfl _).trans ?_
      rw [rest_1, ← List.append_assoc] at hf
      have hO2 : (o :: os ++ blk (wOf ws i) l1).length ≤ capB (1 + 1) := by
        have := blk_len (wOf ws i) l1
        simp only [capB, List.length_append, List.length_cons, List.length_nil] at ho ⊢; omega
      generalize o :: os ++ blk (wOf ws i) l1 = O at *
      cases O with
      | nil =>
        conv => lhs; whnf
        exact (hN ⟨xs, ws, l0, l1, [], i, 1 + 1⟩ ⟨hi, by simp only; omega, hO2, hb0, hb1⟩ (by simp only; omega)).trans hf
      | cons p ps =>
        conv => lhs; whnf
        exact (hN ⟨xs, ws, l0, l1, p :: ps, i, 1 + 1⟩ ⟨hi, by simp only; omega, hO2, hb0, hb1⟩ (by simp only; omega)).trans hf
  · -- 2
    cases out with
    | nil =>
      conv => lhs; whnf
      exact hf
    | cons o os =>
      conv => lhs; whnf
      simp only [rest, List.append_nil] at hf
      exact hf
end Go.Ev.Tab

set_option maxRecDepth 100000
set_option linter.unusedVariables false
namespace Go.Ev.Tab
open Go Go.Ev.X Go.Proofs

theorem boL_eq (x : BO) (hx : x.i < x.ws.length ∧ x.k ≤ 2 ∧ x.out.length ≤ capB x.k ∧ x.l0.length ≤ 1048576 ∧ x.l1.length ≤ 1048576) (K : XK) : boL (booV x) (booM x) K =
    K.exit 0 [oV (x.out ++ rest (wOf x.ws x.i) x.l0 x.l1 x.k)] (oM (x.out ++ rest (wOf x.ws x.i) x.l0 x.l1 x.k)) :=
  loopP_eq boL_inj hx K
/-- What comes out: nothing, or a list. -/
def outA : List Int → AV
  | [] => nilI
  | o :: os => .one (.sl I (sortI (o :: os)) none none)
def blks (xs ws : List GG) (j : Nat) : List Int := blk (ws.getD j g0) xs ++ blk (ws.getD j g0) (ws.take j)
def pBlk := pureP [TB, I] fun x k =>
  bif decide (x.1.1.length ≤ 1048576) && decide (x.1.2.length ≤ 1048576) then
    match idxTx x.2.1 x.1.2 0 with
    | none => k nilI []
    | some j => bif decide ((blks x.1.1 x.1.2 j).length ≤ 1) then k (outA (blks x.1.1 x.1.2 j)) [] else none
  else none
theorem boL_start (xs ws : List GG) (j : Nat) (hj : j < ws.length) (h0 : xs.length ≤ 1048576) (h1 : ws.length ≤ 1048576) (K : XK) : boL (booV ⟨xs, ws, xs, ws.take j, [], j, 0⟩) (booM ⟨xs, ws, xs, ws.take j, [], j, 0⟩) K =
    K.exit 0 [oV (blks xs ws j)] (oM (blks xs ws j)) :=
  boL_eq ⟨xs, ws, xs, ws.take j, [], j, 0⟩ ⟨hj, by simp, by simp [capB], h0, by simp only [List.length_take]; omega⟩ K
theorem blk_ok : COK Try.prog 20 pBlk := by
  refine pure_cok (fn_ok (x := fx20) (H := [(44, i45), (46, pConflict), (47, c47), (48, c48)]) (L := [(6, boL), (9, biL)]) rfl rfl ⟨i45_ok, conflict_ok, c47_ok, c48_ok, trivial⟩ (by kernel_rfl) ⟨boL_ok, biL_ok, trivial⟩) ?_
  rintro ⟨⟨xs, ws⟩, tx, u⟩ k r ⟨⟨hb0, hb1⟩, _⟩ h
  have hb : List.length ws ≤ big := hb1.1
  dsimp only at h
  cases hn : decide (List.length xs ≤ 1048576) && decide (List.length ws ≤ 1048576) with
  | false => rw [hn] at h; cases h
  | true =>
    rw [hn, cond_true] at h
    simp only [Bool.and_eq_true, decide_eq_true_eq] at hn
    cases hi : idxTx tx ws 0 with
    | none =>
      rw [hi] at h
      conv => lhs; whnf
      refine (ifL45_none (g := tx) hi hb _).trans ?_
      conv => lhs; whnf
      exact h
    | some j =>
      rw [hi] at h
      dsimp only at h
      have hj := (idxTx_bnd tx ws 0 j hi).2
      have e3 : (decide (0 ≤ (j : Int)) && decide ((j : Int) ≤ List.length ws)) = true := by simp; omega
      conv => lhs; whnf
      refine (ifL45_some (g := tx) hi hb _).trans ?_
      conv => lhs; whnf
      conv => lhs; arg 3; whnf
      split
      rotate_left
      · rename_i hx
        exact tf e3 hx
      conv => lhs; whnf
      refine (boL_start xs ws j (by omega) hn.1 hn.2 _).trans ?_
      generalize blks xs ws j = O at *
      cases hO : decide (O.length ≤ 1) with
      | false => rewrite [hO] at h; cases h
      | true =>
      rewrite [hO, cond_true] at h
      simp only [decide_eq_true_eq] at hO
      cases O with
      | nil =>
        conv => lhs; whnf
        refine (c47_nil _).trans ?_
        conv => lhs; whnf
        exact h
      | cons o os =>
        obtain rfl : os = [] := by cases os with | nil => rfl | cons => simp at hO
        conv => lhs; whnf
        refine (c47_eq [o] (by simp) _).trans ?_
        conv => lhs; whnf
        exact h
end Go.Ev.Tab

set_option maxRecDepth 100000
set_option linter.unusedVariables false
namespace Go.Ev.Tab
open Go Go.Ev.X Go.Proofs

/-! ### a table's validity -/
noncomputable def c42 := body (rc [(44, i43)] [] fx42) (codeOf fx42)
theorem c42_ok : COK Try.prog 42 c42 := fn_ok (x := fx42) (H := [(44, i43)]) (L := []) rfl rfl ⟨i43_ok, trivial⟩ (by kernel_rfl) trivial

theorem c42_eq (xs : List GG) (g : GG) (h : xs.length ≤ big) (k : AK) : c42 [.one (.sl G xs none none), .one (.fn 43 [] [0])] [(0, .box false (gLeaves g))] k = k (.one (.bool (idxTx g.1 xs 0).isSome)) [(0, .box false (gLeaves g))] := by
  cases hi : idxTx g.1 xs 0 with
  | none =>
    conv => lhs; whnf
    refine (ifL43_none (g := g) hi h _).trans ?_
    conv => lhs; whnf
    exact kbool (by decide)
  | some j =>
    conv => lhs; whnf
    refine (ifL43_some (g := g) hi h _).trans ?_
    conv => lhs; whnf
    exact kbool (by simp)
noncomputable def p42 := hide c42
theorem p42_ok : COK Try.prog 42 p42 := by unfold p42; rw [hide_eq]; exact c42_ok
theorem p42_eq (xs : List GG) (g : GG) (h : xs.length ≤ big) (k : AK) : p42 [.one (.sl G xs none none), .one (.fn 43 [] [0])] [(0, .box false (gLeaves g))] k = k (.one (.bool (idxTx g.1 xs 0).isSome)) [(0, .box false (gLeaves g))] := by
  unfold p42; rw [hide_eq]; exact c42_eq xs g h k
def hOk (xs : List GG) : Nat → Bool
  | 0 => valid (xs.getD 0 g0)
  | i + 1 => valid (xs.getD (i + 1) g0) && !(decide (order (xs.getD i g0) (xs.getD (i + 1) g0) ≥ 0) || conflict (xs.getD i g0) (xs.getD (i + 1) g0))
def hAll (xs : List GG) : Nat → Nat → Bool
  | 0, _ => true
  | f + 1, i => hOk xs i && hAll xs f (i + 1)
def wOk (xs ws : List GG) (i : Nat) : Bool :=
  valid (ws.getD i g0) && !(decide (modeI xs (ws.getD i g0).1 (ws.getD i g0).2.1 ≥ (ws.getD i g0).2.2) || (idxTx (ws.getD i g0).1 (ws.take i) 0).isSome)
def wAll (xs ws : List GG) : Nat → Nat → Bool
  | 0, _ => true
  | f + 1, i => wOk xs ws i && wAll xs ws f (i + 1)

structure VS where
  xs : List GG
  ws : List GG
  i : Nat
abbrev vM (x : VS) : Mem := [(100000000, .box false [.sl G x.xs none none, .sl G x.ws none none])]
abbrev vaV (x : VS) : List AV := [.one (.ptr 100000000 0 none), .one (.sl G x.xs none none), .one (.int .i64 x.xs.length), .one (.int .i64 x.i)]
abbrev vbV (x : VS) : List AV := [.one (.ptr 100000000 0 none), .one (.sl G x.ws none none), .one (.int .i64 x.ws.length), .one (.int .i64 x.i)]
noncomputable def vaL := loopP vaV vM (fun x => x.xs.length + x.ws.length ≤ 1024)
  (fun x K => bif hAll x.xs (x.xs.length - x.i) x.i then K.exit 0 [.one (.ptr 100000000 0 none)] (vM x) else K.ret [.one (.bool false)] [])
noncomputable def vbL := loopP vbV vM (fun x => x.xs.length + x.ws.length ≤ 1024)
  (fun x K => bif wAll x.xs x.ws (x.ws.length - x.i) x.i then K.exit 2 [] [] else K.ret [.one (.bool false)] [])
theorem vaL_inj (x y : VS) (h : vaV x = vaV y) (h' : vM x = vM y) : x = y := by
  obtain ⟨xs, ws, i⟩ := x
  obtain ⟨xs', ws', i'⟩ := y
  simp_all [vM, vaV]
  omega
theorem vbL_inj (x y : VS) (h : vbV x = vbV y) (h' : vM x = vM y) : x = y := by
  obtain ⟨xs, ws, i⟩ := x
  obtain ⟨xs', ws', i'⟩ := y
  simp_all [vM, vbV]
  omega
theorem vaL_ok : LoopOK (rc [(29, pValid), (31, pMode), (40, pOrder), (41, pConflict), (42, p42)] [(4, vaL), (10, vbL)] fx19) (loopB 4 (codeOf fx19)) vaL := by
  refine loopP_ok vaL_inj (fun x => x.xs.length - x.i) ?_
  rintro ⟨xs, ws, i⟩ K r N hb hN hf
  dsimp only at hb hN hf
  rcases Nat.lt_or_ge i xs.length with h | h
  · have hs : hAll xs (xs.length - i) i = (hOk xs i && hAll xs (xs.length - (i + 1)) (i + 1)) := by
      obtain ⟨n, hn⟩ : ∃ n, xs.length - i = n + 1 := ⟨xs.length - i - 1, by omega⟩
      rw [hn, show xs.length - (i + 1) = n by omega]; rfl
    rw [hs] at hf
    have e1 := lt_t h
    have e2 := ix_t (a := G.width) (b := 4) rfl h
    cases i with
    | zero =>
      conv => lhs; whnf
      rewrite [e1]
      conv => lhs; whnf
      rewrite [e2]
      conv => lhs; whnf
      split
      · rename_i h0
        have h0 : (!valid (xs.getD 0 g0)) = true := h0
        have ho : hOk xs 0 = false := by simpa [hOk] using h0
        rw [ho] at hf
        conv => lhs; whnf
        exact hf
      · rename_i h0
        have h0 : (!valid (xs.getD 0 g0)) = false := h0
        have ho : hOk xs 0 = true := by simpa [hOk] using h0
        rw [ho] at hf
        conv => lhs; whnf
        exact (hN ⟨xs, ws, 1⟩ hb (by simp only; omega)).trans hf
    | succ i =>
      have e3 := ix_t (a := G.width) (b := 4) rfl (show i < xs.length by omega)
      have e4 : decide (((i + 1 : Nat) : Int) > 0) = true := by simp
      conv => lhs; whnf
      rewrite [e1]
      conv => lhs; whnf
      rewrite [e2]
      conv => lhs; whnf
      split
      · rename_i h0
        have h0 : (!valid (xs.getD (i + 1) g0)) = true := h0
        have ho : hOk xs (i + 1) = false := by simp only [hOk]; simp at h0; simp [h0]
        rw [ho] at hf
        conv => lhs; whnf
        exact hf
      · rename_i h0
        have h0 : (!valid (xs.getD (i + 1) g0)) = false := h0
        conv => lhs; whnf
        split
        rotate_left
        · rename_i hx
          exact tf e4 hx
        conv => lhs; whnf
        conv => lhs; arg 3; whnf
        rewrite [pred_w (show i < 9223372036854775807 by omega)]
        split
        rotate_left
        · rename_i hx
          exact tf e3 hx
        conv => lhs; whnf
        split
        · rename_i h1
          have h1 : decide (order (xs.getD i g0) (xs.getD (i + 1) g0) ≥ 0) = true := h1
          have ho : hOk xs (i + 1) = false := by simp only [hOk, h1]; simp
          rw [ho] at hf
          conv => lhs; whnf
          exact hf
        · rename_i h1
          have h1 : decide (order (xs.getD i g0) (xs.getD (i + 1) g0) ≥ 0) = false := h1
          conv => lhs; whnf
          conv => lhs; arg 3; whnf
          rewrite [pred_w (show i < 9223372036854775807 by omega)]
          split
          rotate_left
          · rename_i hx
            exact tf e3 hx
          conv => lhs; whnf
          split
          · rename_i h2
            have h2 : conflict (xs.getD i g0) (xs.getD (i + 1) g0) = true := h2
            have ho : hOk xs (i + 1) = false := by simp only [hOk, h1, h2]; simp
            rw [ho] at hf
            conv => lhs; whnf
            exact hf
          · rename_i h2
            have h2 : conflict (xs.getD i g0) (xs.getD (i + 1) g0) = false := h2
            have ho : hOk xs (i + 1) = true := by simp only [hOk, h1, h2]; simpa using h0
            rw [ho] at hf
            conv => lhs; whnf
            rewrite [succ_w (i := i + 1) (by omega)]
            exact (hN ⟨xs, ws, i + 1 + 1⟩ hb (by simp only; omega)).trans hf
  · rw [show xs.length - i = 0 by omega, hAll] at hf
    conv => lhs; whnf
    rw [lt_f h]
    conv => lhs; whnf
    exact hf
theorem vaL_eq (xs ws : List GG) (hb : xs.length + ws.length ≤ 1024) (K : XK) : vaL (vaV ⟨xs, ws, 0⟩) (vM ⟨xs, ws, 0⟩) K =
    bif hAll xs xs.length 0 then K.exit 0 [.one (.ptr 100000000 0 none)] (vM ⟨xs, ws, 0⟩) else K.ret [.one (.bool false)] [] :=
  loopP_eq vaL_inj (x := ⟨xs, ws, 0⟩) hb K
theorem vbL_ok : LoopOK (rc [(29, pValid), (31, pMode), (40, pOrder), (41, pConflict), (42, p42)] [(4, vaL), (10, vbL)] fx19) (loopB 10 (codeOf fx19)) vbL := by
  refine loopP_ok vbL_inj (fun x => x.ws.length - x.i) ?_
  rintro ⟨xs, ws, i⟩ K r N hb hN hf
  dsimp only at hb hN hf
  rcases Nat.lt_or_ge i ws.length with h | h
  · have hs : wAll xs ws (ws.length - i) i = (wOk xs ws i && wAll xs ws (ws.length - (i + 1)) (i + 1)) := by
      obtain ⟨n, hn⟩ : ∃ n, ws.length - i = n + 1 := ⟨ws.length - i - 1, by omega⟩
      rw [hn, show ws.length - (i + 1) = n by omega]; rfl
    rw [hs] at hf
    have e1 := lt_t h
    have e2 := ix_t (a := G.width) (b := 4) rfl h
    conv => lhs; whnf
    rewrite [e1]
    conv => lhs; whnf
    rewrite [e2]
    conv => lhs; whnf
    split
    · rename_i h0
      have h0 : (!valid (ws.getD i g0)) = true := h0
      have ho : wOk xs ws i = false := by simp only [wOk]; simp at h0; simp [h0]
      rw [ho] at hf
      conv => lhs; whnf
      exact hf
    · rename_i h0
      have h0 : (!valid (ws.getD i g0)) = false := h0
      conv => lhs; whnf
      split
      · rename_i h1
        have h1 : decide (modeI xs (ws.getD i g0).1 (ws.getD i g0).2.1 ≥ (ws.getD i g0).2.2) = true := h1
        have ho : wOk xs ws i = false := by simp only [wOk, h1]; simp
        rw [ho] at hf
        conv => lhs; whnf
        exact hf
      · rename_i h1
        have h1 : decide (modeI xs (ws.getD i g0).1 (ws.getD i g0).2.1 ≥ (ws.getD i g0).2.2) = false := h1
        have e3 : (decide (0 ≤ (i : Int)) && decide ((i : Int) ≤ ws.length)) = true := by simp; omega
        conv => lhs; whnf
        conv => lhs; arg 3; whnf
        split
        rotate_left
        · rename_i hx
          exact tf e3 hx
        conv => lhs; whnf
        conv => lhs; arg 3; whnf
        conv => lhs; arg 3; tactic => exact p42_eq (ws.take i) (ws.getD i g0) (by rw [List.length_take]; unfold big; omega) _
        conv => lhs; whnf
        split
        · rename_i h2
          have h2 : (idxTx (ws.getD i g0).1 (ws.take i) 0).isSome = true := h2
          have ho : wOk xs ws i = false := by simp only [wOk, h1, h2]; simp
          rw [ho] at hf
          conv => lhs; whnf
          exact hf
        · rename_i h2
          have h2 : (idxTx (ws.getD i g0).1 (ws.take i) 0).isSome = false := h2
          have ho : wOk xs ws i = true := by simp only [wOk, h1, h2]; simpa using h0
          rw [ho] at hf
          conv => lhs; whnf
          rewrite [succ_w (i := i) (by omega)]
          exact (hN ⟨xs, ws, i + 1⟩ hb (by simp only; omega)).trans hf
  · rw [show ws.length - i = 0 by omega, wAll] at hf
    conv => lhs; whnf
    rw [lt_f h]
    conv => lhs; whnf
    exact hf
theorem vbL_eq (xs ws : List GG) (hb : xs.length + ws.length ≤ 1024) (K : XK) : vbL (vbV ⟨xs, ws, 0⟩) (vM ⟨xs, ws, 0⟩) K =
    bif wAll xs ws ws.length 0 then K.exit 2 [] [] else K.ret [.one (.bool false)] [] :=
  loopP_eq vbL_inj (x := ⟨xs, ws, 0⟩) hb K
def tabOk (xs ws : List GG) : Bool := decide (xs.length + ws.length ≤ 1024) && (hAll xs xs.length 0 && wAll xs ws ws.length 0)
def pTab := pureP [TB] fun x k => k (.one (.bool (tabOk x.1.1 x.1.2))) []
theorem tab_ok : COK Try.prog 19 pTab := by
  refine pure_cok (fn_ok (x := fx19) (H := [(29, pValid), (31, pMode), (40, pOrder), (41, pConflict), (42, p42)]) (L := [(4, vaL), (10, vbL)]) rfl rfl ⟨valid_ok, mode_ok, order_ok, lconflict_ok, p42_ok, trivial⟩ (by kernel_rfl) ⟨vaL_ok, vbL_ok, trivial⟩) ?_
  rintro ⟨⟨xs, ws⟩, u⟩ k r ⟨⟨hb0, hb1⟩, _⟩ h
  have hb0 : List.length xs ≤ big := hb0.1
  have hb1 : List.length ws ≤ big := hb1.1
  dsimp only at h
  rcases Nat.lt_or_ge 1024 (List.length xs + List.length ws) with hl | hl
  · have e1 : decide (IntKind.i64.wrap ((List.length xs : Int) + (List.length ws : Int)) > 1024) = true := by unfold big at hb0 hb1; rw [wrap_id (by omega) (by omega)]; simp; omega
    have ho : tabOk xs ws = false := by simp only [tabOk]; simp; omega
    rw [ho] at h
    conv => lhs; whnf
    split
    rotate_left
    · rename_i hx
      exact tf e1 hx
    conv => lhs; whnf
    exact h
  · have e1 : decide (IntKind.i64.wrap ((List.length xs : Int) + (List.length ws : Int)) > 1024) = false := by rw [wrap_id (by omega) (by omega)]; simp; omega
    have e0 : decide (List.length xs + List.length ws ≤ 1024) = true := by simpa using hl
    simp only [tabOk, e0, Bool.true_and] at h
    conv => lhs; whnf
    split
    · rename_i hx
      exact tf hx e1
    conv => lhs; whnf
    refine (vaL_eq xs ws hl _).trans ?_
    cases hA : hAll xs (List.length xs) 0 with
    | false =>
      rw [hA] at h
      conv => lhs; whnf
      exact h
    | true =>
      rw [hA] at h
      conv => lhs; whnf
      refine (vbL_eq xs ws hl _).trans ?_
      cases hB : wAll xs ws (List.length ws) 0 with
      | false =>
        rw [hB] at h
        conv => lhs; whnf
        exact h
      | true =>
        rw [hB] at h
        conv => lhs; whnf
        exact h
end Go.Ev.Tab

/- The table of locks: requests and what is given up: contracts. Own work. -/
set_option maxRecDepth 100000
set_option maxHeartbeats 1000000
set_option linter.unusedVariables false
namespace Go.Ev.Tab
open Go Go.Ev.X Go.Proofs

/-! ### what a transaction waits for -/
abbrev zG : GG := (0, (0, 0), 0)
def waitF (xs ws : List GG) (tx : Int) : GG × Bool := match idxP (fun g => g.1 == tx) ws 0 with
  | some j => bif tabOk xs ws then (ws.getD j g0, true) else (zG, false)
  | none => (zG, false)
def pWaiting := pureP [TB, I] fun x k => gd (decide (x.1.2.length ≤ 1048576))
  (k (.tup [.agg (gLeaves (waitF x.1.1 x.1.2 x.2.1).1), .one (.bool (waitF x.1.1 x.1.2 x.2.1).2)]) [])
theorem qWt_fun (t : Int) : qWt t = fun g => g.1 == t := by funext g; rw [qWt_eq]
theorem waiting_ok : COK Try.prog 30 pWaiting := by
  refine pure_cok (fn_ok (x := fx30) (H := [(44, pifWt), (19, pTab)]) (L := []) rfl rfl ⟨pifWt_ok, tab_ok, trivial⟩ (by kernel_rfl) trivial) ?_
  rintro ⟨⟨xs, ws⟩, tx, u⟩ k r hb h
  obtain ⟨h1, h⟩ := gd_some.mp h
  simp only [decide_eq_true_eq] at h1
  replace h1 : List.length ws ≤ 1048576 := h1
  have e1 : (decide (List.length ws ≤ 1048576) && true) = true := by rw [decide_eq_true h1]; rfl
  dsimp only at h
  unfold waitF at h
  rw [← qWt_fun] at h
  have hI : idxI (qWt tx) ws = match idxP (qWt tx) ws 0 with | some j => (j : Nat) | none => -1 := rfl
  conv => lhs; whnf
  split
  rotate_left
  · rename_i hx
    exact tf (e1) hx
  conv => lhs; whnf
  rewrite [hI]
  cases hi : idxP (qWt tx) ws 0 with
  | none =>
    rw [hi] at h
    conv => lhs; whnf
    exact h
  | some j =>
    have hj := (idxP_bnd _ ws 0 j hi).2
    rw [hi] at h
    cases ht : tabOk xs ws with
    | false =>
      rw [ht] at h
      conv => lhs; whnf
      repeat' ((first | split | ((conv => lhs; arg 3; whnf); split)) <;> first | (exfalso; rename_i hx; first | (simp (disch := omega) [leavesIds, V.leaves, Leaf.ids, mem?, nbeq, Ty.width, wrap_id, View.lenN, View.off, View.len_eq, sees_tail, sees_sub, rec_k, tn1, tn2, tn3, tn4, tn5, tn6, ht] at hx; done) | (simp (disch := omega) [leavesIds, V.leaves, Leaf.ids, mem?, nbeq, Ty.width, wrap_id, View.lenN, View.off, View.len_eq, sees_tail, sees_sub, rec_k, tn1, tn2, tn3, tn4, tn5, tn6, ht] at hx; omega) | (refine absurd (hx.symm.trans ?_) Bool.false_ne_true; (try simp only [Bool.and_eq_true, decide_eq_true_eq]); (try simp (disch := omega) [leavesIds, V.leaves, Leaf.ids, mem?, nbeq, Ty.width, wrap_id, View.lenN, View.off, View.len_eq, sees_tail, sees_sub, rec_k, tn1, tn2, tn3, tn4, tn5, tn6, ht]); (try omega); done) | omega) | (rename_i he; cases he; conv => lhs; whnf) | (conv => lhs; whnf))
      exact h
    | true =>
      rw [ht] at h
      conv => lhs; whnf
      repeat' ((first | split | ((conv => lhs; arg 3; whnf); split)) <;> first | (exfalso; rename_i hx; first | (simp (disch := omega) [leavesIds, V.leaves, Leaf.ids, mem?, nbeq, Ty.width, wrap_id, View.lenN, View.off, View.len_eq, sees_tail, sees_sub, rec_k, tn1, tn2, tn3, tn4, tn5, tn6, ht] at hx; done) | (simp (disch := omega) [leavesIds, V.leaves, Leaf.ids, mem?, nbeq, Ty.width, wrap_id, View.lenN, View.off, View.len_eq, sees_tail, sees_sub, rec_k, tn1, tn2, tn3, tn4, tn5, tn6, ht] at hx; omega) | (refine absurd (hx.symm.trans ?_) Bool.false_ne_true; (try simp only [Bool.and_eq_true, decide_eq_true_eq]); (try simp (disch := omega) [leavesIds, V.leaves, Leaf.ids, mem?, nbeq, Ty.width, wrap_id, View.lenN, View.off, View.len_eq, sees_tail, sees_sub, rec_k, tn1, tn2, tn3, tn4, tn5, tn6, ht]); (try omega); done) | omega) | (rename_i he; cases he; conv => lhs; whnf) | (conv => lhs; whnf))
      exact h

/-! ### where a request goes -/
def plF (xs : List GG) (g x : GG) : Bool := (x.1 != g.1) && ((x.2.1.1 == g.2.1.1 && x.2.1.2 == g.2.1.2) && (modeI xs x.1 x.2.1 == 0))
def placeF (xs ws : List GG) (g : GG) : Nat := bif modeI xs g.1 g.2.1 == 0 then ws.length else match idxP (plF xs g) ws 0 with | some j => j | none => ws.length
theorem placeF_le (xs ws : List GG) (g : GG) : placeF xs ws g ≤ ws.length := by
  unfold placeF
  cases modeI xs g.1 g.2.1 == 0 with
  | true => exact Nat.le_refl _
  | false =>
    rw [cond_false]
    cases hi : idxP (plF xs g) ws 0 with
    | none => exact Nat.le_refl _
    | some j => have := (idxP_bnd _ ws 0 j hi).2; simp only; omega
noncomputable def plL (xs ws : List GG) (g : GG) := loopP (α := Nat) (fun i => [sP 100000000, sP 100000001, .one (.sl G ws none none), .one (.int .i64 ws.length), .one (.int .i64 i)])
  (fun _ => [(100000000, .box false [.sl G xs none none, .sl G ws none none]), (100000001, .box false (gLeaves g))]) (fun _ => ws.length ≤ 1048576)
  (fun i K => match idxP (plF xs g) (ws.drop i) i with | some j => K.ret [.one (.int .i64 (j : Nat))] [] | none => K.exit 0 [sP 100000000] [(100000000, .box false [.sl G xs none none, .sl G ws none none])])
theorem plL_ok (xs ws : List GG) (g : GG) : LoopOK (rc [(31, pMode)] [(4, plL xs ws g)] fx34) (loopB 4 (codeOf fx34)) (plL xs ws g) := by
  refine loopP_ok (fun x y h _ => by simp only [List.cons.injEq] at h; exact int_last h.2.2.2.2.1) (fun i => ws.length - i) ?_
  intro i K r N hb hN hf
  try dsimp only at hN
  try dsimp only at hf
  rcases Nat.lt_or_ge i ws.length with h | h
  · obtain ⟨ga, ⟨gb, gc⟩, gd⟩ := g
    obtain ⟨⟨xa, ⟨xb, xc⟩, xd⟩, hg⟩ : ∃ g, ws[i] = g := ⟨_, rfl⟩
    rw [drop_nth ws i h, idxP, hg] at hf
    have hN' := hN (i + 1) hb (by omega)
    have e1 := lt_t h
    conv => lhs; whnf
    split
    rotate_left
    · rename_i hx
      exact tf (e1) hx
    conv => lhs; whnf
    cases h1 : xa != ga with
    | false =>
      rw [show plF xs (ga, (gb, gc), gd) (xa, (xb, xc), xd) = false by simp [plF, h1]] at hf
      repeat' ((first | split | ((conv => lhs; arg 3; whnf); split)) <;> first | (exfalso; rename_i hx; first | (simp (disch := omega) [leavesIds, V.leaves, Leaf.ids, mem?, nbeq, Ty.width, wrap_id, View.lenN, View.off, View.len_eq, sees_tail, sees_sub, rec_k, tn1, tn2, tn3, tn4, tn5, tn6, hg, h1] at hx; done) | (simp (disch := omega) [leavesIds, V.leaves, Leaf.ids, mem?, nbeq, Ty.width, wrap_id, View.lenN, View.off, View.len_eq, sees_tail, sees_sub, rec_k, tn1, tn2, tn3, tn4, tn5, tn6, hg, h1] at hx; omega) | (refine absurd (hx.symm.trans ?_) Bool.false_ne_true; (try simp only [Bool.and_eq_true, decide_eq_true_eq]); (try simp (disch := omega) [leavesIds, V.leaves, Leaf.ids, mem?, nbeq, Ty.width, wrap_id, View.lenN, View.off, View.len_eq, sees_tail, sees_sub, rec_k, tn1, tn2, tn3, tn4, tn5, tn6, hg, h1]); (try omega); done) | omega) | (rename_i he; cases he; conv => lhs; whnf) | (conv => lhs; whnf))
      rewrite [succ_w (by omega)]
      exact hN'.trans hf
    | true =>
      cases h2 : (xb == gb && xc == gc) with
      | false =>
        rw [show plF xs (ga, (gb, gc), gd) (xa, (xb, xc), xd) = false by simp only [plF, h2]; simp] at hf
        repeat' ((first | split | ((conv => lhs; arg 3; whnf); split)) <;> first | (exfalso; rename_i hx; first | (simp (disch := omega) [leavesIds, V.leaves, Leaf.ids, mem?, nbeq, Ty.width, wrap_id, View.lenN, View.off, View.len_eq, sees_tail, sees_sub, rec_k, tn1, tn2, tn3, tn4, tn5, tn6, hg, h1, beq_pair, beq_int, h2] at hx; done) | (simp (disch := omega) [leavesIds, V.leaves, Leaf.ids, mem?, nbeq, Ty.width, wrap_id, View.lenN, View.off, View.len_eq, sees_tail, sees_sub, rec_k, tn1, tn2, tn3, tn4, tn5, tn6, hg, h1, beq_pair, beq_int, h2] at hx; omega) | (refine absurd (hx.symm.trans ?_) Bool.false_ne_true; (try simp only [Bool.and_eq_true, decide_eq_true_eq]); (try simp (disch := omega) [leavesIds, V.leaves, Leaf.ids, mem?, nbeq, Ty.width, wrap_id, View.lenN, View.off, View.len_eq, sees_tail, sees_sub, rec_k, tn1, tn2, tn3, tn4, tn5, tn6, hg, h1, beq_pair, beq_int, h2]); (try omega); done) | omega) | (rename_i he; cases he; conv => lhs; whnf) | (conv => lhs; whnf))
        rewrite [succ_w (by omega)]
        exact hN'.trans hf
      | true =>
        cases h3 : modeI xs xa (xb, xc) == 0 with
        | false =>
          rw [show plF xs (ga, (gb, gc), gd) (xa, (xb, xc), xd) = false by simp only [plF, h2, h3]; simp] at hf
          repeat' ((first | split | ((conv => lhs; arg 3; whnf); split)) <;> first | (exfalso; rename_i hx; first | (simp (disch := omega) [leavesIds, V.leaves, Leaf.ids, mem?, nbeq, Ty.width, wrap_id, View.lenN, View.off, View.len_eq, sees_tail, sees_sub, rec_k, tn1, tn2, tn3, tn4, tn5, tn6, hg, h1, beq_pair, beq_int, h2, h3] at hx; done) | (simp (disch := omega) [leavesIds, V.leaves, Leaf.ids, mem?, nbeq, Ty.width, wrap_id, View.lenN, View.off, View.len_eq, sees_tail, sees_sub, rec_k, tn1, tn2, tn3, tn4, tn5, tn6, hg, h1, beq_pair, beq_int, h2, h3] at hx; omega) | (refine absurd (hx.symm.trans ?_) Bool.false_ne_true; (try simp only [Bool.and_eq_true, decide_eq_true_eq]); (try simp (disch := omega) [leavesIds, V.leaves, Leaf.ids, mem?, nbeq, Ty.width, wrap_id, View.lenN, View.off, View.len_eq, sees_tail, sees_sub, rec_k, tn1, tn2, tn3, tn4, tn5, tn6, hg, h1, beq_pair, beq_int, h2, h3]); (try omega); done) | omega) | (rename_i he; cases he; conv => lhs; whnf) | (conv => lhs; whnf))
          rewrite [succ_w (by omega)]
          exact hN'.trans hf
        | true =>
          rw [show plF xs (ga, (gb, gc), gd) (xa, (xb, xc), xd) = true by simp only [plF, h1, h2, h3]; simp] at hf
          repeat' ((first | split | ((conv => lhs; arg 3; whnf); split)) <;> first | (exfalso; rename_i hx; first | (simp (disch := omega) [leavesIds, V.leaves, Leaf.ids, mem?, nbeq, Ty.width, wrap_id, View.lenN, View.off, View.len_eq, sees_tail, sees_sub, rec_k, tn1, tn2, tn3, tn4, tn5, tn6, hg, h1, beq_pair, beq_int, h2, h3] at hx; done) | (simp (disch := omega) [leavesIds, V.leaves, Leaf.ids, mem?, nbeq, Ty.width, wrap_id, View.lenN, View.off, View.len_eq, sees_tail, sees_sub, rec_k, tn1, tn2, tn3, tn4, tn5, tn6, hg, h1, beq_pair, beq_int, h2, h3] at hx; omega) | (refine absurd (hx.symm.trans ?_) Bool.false_ne_true; (try simp only [Bool.and_eq_true, decide_eq_true_eq]); (try simp (disch := omega) [leavesIds, V.leaves, Leaf.ids, mem?, nbeq, Ty.width, wrap_id, View.lenN, View.off, View.len_eq, sees_tail, sees_sub, rec_k, tn1, tn2, tn3, tn4, tn5, tn6, hg, h1, beq_pair, beq_int, h2, h3]); (try omega); done) | omega) | (rename_i he; cases he; conv => lhs; whnf) | (conv => lhs; whnf))
          exact hf
  · rw [List.drop_eq_nil_of_le h, idxP] at hf
    conv => lhs; whnf
    rw [lt_f h]
    conv => lhs; whnf
    exact hf

def pPlace := pureP [TB, G] fun x k => gd (decide (x.1.2.length ≤ 1048576)) (k (.one (.int .i64 (placeF x.1.1 x.1.2 x.2.1 : Nat))) [])
open Classical in
theorem pure_cokD {P : Program} {f : FuncId} {ts : List Ty} {F : Ts ts → AK → R}
    (h : ∀ x, BoundedTs ts x → ∃ b, COK P f b ∧ ∀ k r, F x k = some r → b (avTs ts x) [] (fun v m => opt (frz m v) fun v' => k v' []) = some r) : COK P f (pureP ts F) := by
  refine ⟨fun {ok μ m w args vs k r} hS hx hp => ?_⟩
  have hp' := hp
  unfold pureP at hp
  split at hp
  · rename_i x hu
    obtain ⟨b, hb, hr⟩ := h x (unTs_rep (μ' := μ) (m' := []) hu hx).2
    refine pure_ok (F := fun x' k' => if x' = x then F x' k' else none) hb.ok (fun x' k' r' _ h' => ?_) hS hx (k := k) (r := r) ?_
    · by_cases e : x' = x
      · subst e
        rw [if_pos rfl] at h'
        exact hr k' r' h'
      · rw [if_neg e] at h'
        cases h'
    · unfold pureP
      rw [hu]
      simpa using hp
  · cases hp
theorem place_ok : COK Try.prog 34 pPlace := by
  refine pure_cokD fun ⟨⟨xs, ws⟩, g, u⟩ hb => ⟨_, fn_ok (x := fx34) (H := [(31, pMode)]) (L := [(4, plL xs ws g)]) rfl rfl ⟨mode_ok, trivial⟩ (by kernel_rfl) ⟨plL_ok xs ws g, trivial⟩, fun k r h => ?_⟩
  obtain ⟨h1, h⟩ := gd_some.mp h
  simp only [decide_eq_true_eq] at h1
  replace h1 : List.length ws ≤ 1048576 := h1
  dsimp only at h
  unfold placeF at h
  cases hm : modeI xs g.1 g.2.1 == 0 with
  | true =>
    rw [hm, cond_true] at h
    conv => lhs; whnf
    repeat' ((first | split | ((conv => lhs; arg 3; whnf); split)) <;> first | (exfalso; rename_i hx; first | (simp (disch := omega) [leavesIds, V.leaves, Leaf.ids, mem?, nbeq, Ty.width, wrap_id, View.lenN, View.off, View.len_eq, sees_tail, sees_sub, rec_k, tn1, tn2, tn3, tn4, tn5, tn6, hm] at hx; done) | (simp (disch := omega) [leavesIds, V.leaves, Leaf.ids, mem?, nbeq, Ty.width, wrap_id, View.lenN, View.off, View.len_eq, sees_tail, sees_sub, rec_k, tn1, tn2, tn3, tn4, tn5, tn6, hm] at hx; omega) | (refine absurd (hx.symm.trans ?_) Bool.false_ne_true; (try simp only [Bool.and_eq_true, decide_eq_true_eq]); (try simp (disch := omega) [leavesIds, V.leaves, Leaf.ids, mem?, nbeq, Ty.width, wrap_id, View.lenN, View.off, View.len_eq, sees_tail, sees_sub, rec_k, tn1, tn2, tn3, tn4, tn5, tn6, hm]); (try omega); done) | omega) | (rename_i he; cases he; conv => lhs; whnf) | (conv => lhs; whnf))
    exact h
  | false =>
    rw [hm, cond_false] at h
    conv => lhs; whnf
    (split <;> first | (exfalso; rename_i hx; first | (simp (disch := omega) [leavesIds, V.leaves, Leaf.ids, mem?, nbeq, Ty.width, wrap_id, View.lenN, View.off, View.len_eq, sees_tail, sees_sub, rec_k, tn1, tn2, tn3, tn4, tn5, tn6, hm] at hx; done) | (simp (disch := omega) [leavesIds, V.leaves, Leaf.ids, mem?, nbeq, Ty.width, wrap_id, View.lenN, View.off, View.len_eq, sees_tail, sees_sub, rec_k, tn1, tn2, tn3, tn4, tn5, tn6, hm] at hx; omega) | (refine absurd (hx.symm.trans ?_) Bool.false_ne_true; (try simp only [Bool.and_eq_true, decide_eq_true_eq]); (try simp (disch := omega) [leavesIds, V.leaves, Leaf.ids, mem?, nbeq, Ty.width, wrap_id, View.lenN, View.off, View.len_eq, sees_tail, sees_sub, rec_k, tn1, tn2, tn3, tn4, tn5, tn6, hm]); (try omega); done) | omega) | (conv => lhs; whnf))
    refine (loopP_eq (fun x y h _ => by simp only [List.cons.injEq] at h; exact int_last h.2.2.2.2.1) (x := 0) h1 _).trans ?_
    dsimp only
    rw [List.drop_zero]
    cases hi : idxP (plF xs g) ws 0 with
    | none =>
      rw [hi] at h
      conv => lhs; whnf
      exact h
    | some j =>
      rw [hi] at h
      conv => lhs; whnf
      exact h
/-- Two contracts for two closures. -/
def orFn (c : Nat) (p q : List AV → Mem → AK → R) : List AV → Mem → AK → R := fun args m k =>
  match args with
  | [_, .val (.one (.fn f _ _))] => bif Nat.beq f c then p args m k else q args m k
  | _ => none
theorem orFn_ok {P : Program} {f c : Nat} {p q : List AV → Mem → AK → R} (hp : COK P f p) (hq : COK P f q) : COK P f (orFn c p q) := by
  refine ⟨CallOK.weakenD fun args m k r h => ?_⟩
  unfold orFn at h
  split at h
  · rename_i f' _ _
    cases hb : Nat.beq f' c with
    | true => rw [hb] at h; exact ⟨p, hp.ok, h⟩
    | false => rw [hb] at h; exact ⟨q, hq.ok, h⟩
  · cases h
theorem tabOk_len {xs ws : List GG} (h : tabOk xs ws = true) : xs.length + ws.length ≤ 1024 := by
  unfold tabOk at h
  simp only [Bool.and_eq_true, decide_eq_true_eq] at h
  exact h.1

noncomputable def pWoCancel : List AV → Mem → AK → R := fun args m k =>
  match args, m with
  | [.val (.agg [.sl (.pair (.int .i64) (.pair (.pair (.int .i64) (.int .i64)) (.int .i64))) xs none none, .sl (.pair (.int .i64) (.pair (.pair (.int .i64) (.int .i64)) (.int .i64))) ws none none]), .val (.one (.fn 24 [] [])), .val (.one (.fn 25 [] [0]))], [(0, .box false [.int .i64 t])] =>
    bif tabOk xs ws then k (.agg [.ref 100000001 (.tail 0) none, .ref 100000002 (.tail 0) none]) [(0, .box false [.int .i64 t]), (100000001, .arr G (settleF (xs.filter (fun y => !qNo () y)) (ws.filter (fun y => !qTxC t y))).1 false), (100000002, .arr G (settleF (xs.filter (fun y => !qNo () y)) (ws.filter (fun y => !qTxC t y))).2 false)]
    else k (.agg [.sl G xs none none, .sl G ws none none]) [(0, .box false [.int .i64 t])]
  | _, _ => none
theorem woCancel_ok : COK Try.prog 23 pWoCancel := by
  refine ⟨CallOK.weaken (fno_ok (x := fx23) (own := [retKey]) (H := [(19, pTab), (32, pOwn), (50, orFn 24 pdfNo pdfTxC), (35, pSettle)]) (L := []) rfl rfl ⟨tab_ok, own_ok, orFn_ok pdfNo_ok pdfTxC_ok, settle_ok, trivial⟩ (by kernel_rfl) trivial).ok fun args m k r h => ?_⟩
  unfold pWoCancel at h
  split at h
  · rename_i xs ws t
    cases ht : tabOk xs ws with
    | false =>
      rw [ht, cond_false] at h
      conv => lhs; whnf
      repeat' ((first | split | ((conv => lhs; arg 3; whnf); split)) <;> first | (exfalso; rename_i hx; first | (simp (disch := omega) [leavesIds, V.leaves, Leaf.ids, mem?, nbeq, Ty.width, wrap_id, View.lenN, View.off, View.len_eq, sees_tail, sees_sub, rec_k, tn1, tn2, tn3, tn4, tn5, tn6, ht] at hx; done) | (simp (disch := omega) [leavesIds, V.leaves, Leaf.ids, mem?, nbeq, Ty.width, wrap_id, View.lenN, View.off, View.len_eq, sees_tail, sees_sub, rec_k, tn1, tn2, tn3, tn4, tn5, tn6, ht] at hx; omega) | (refine absurd (hx.symm.trans ?_) Bool.false_ne_true; (try simp only [Bool.and_eq_true, decide_eq_true_eq]); (try simp (disch := omega) [leavesIds, V.leaves, Leaf.ids, mem?, nbeq, Ty.width, wrap_id, View.lenN, View.off, View.len_eq, sees_tail, sees_sub, rec_k, tn1, tn2, tn3, tn4, tn5, tn6, ht]); (try omega); done) | omega) | (rename_i he; cases he; conv => lhs; whnf) | (conv => lhs; whnf))
      exact h
    | true =>
      have hlen := tabOk_len ht
      have hl1 := List.length_filter_le (fun y => !qNo () y) xs
      have hl2 := List.length_filter_le (fun y => !qTxC t y) ws
      have e2 : decide ((xs.filter (fun y => !qNo () y)).length + (ws.filter (fun y => !qTxC t y)).length ≤ 1000000) = true := decide_eq_true (by omega)
      rw [ht, cond_true] at h
      conv => lhs; whnf
      repeat' ((first | split | ((conv => lhs; arg 3; whnf); split)) <;> first | (exfalso; rename_i hx; first | (simp (disch := omega) [leavesIds, V.leaves, Leaf.ids, mem?, nbeq, Ty.width, wrap_id, View.lenN, View.off, View.len_eq, sees_tail, sees_sub, rec_k, tn1, tn2, tn3, tn4, tn5, tn6, ht] at hx; done) | (simp (disch := omega) [leavesIds, V.leaves, Leaf.ids, mem?, nbeq, Ty.width, wrap_id, View.lenN, View.off, View.len_eq, sees_tail, sees_sub, rec_k, tn1, tn2, tn3, tn4, tn5, tn6, ht] at hx; omega) | (refine absurd (hx.symm.trans ?_) Bool.false_ne_true; (try simp only [Bool.and_eq_true, decide_eq_true_eq]); (try simp (disch := omega) [leavesIds, V.leaves, Leaf.ids, mem?, nbeq, Ty.width, wrap_id, View.lenN, View.off, View.len_eq, sees_tail, sees_sub, rec_k, tn1, tn2, tn3, tn4, tn5, tn6, ht]); (try omega); done) | omega) | (rename_i he; cases he; conv => lhs; whnf) | (conv => lhs; whnf))
      all_goals first | exact h | (rename_i hx; exact tf e2 hx)
  · cases h

noncomputable def pWoDrop : List AV → Mem → AK → R := fun args m k =>
  match args, m with
  | [.val (.agg [.sl (.pair (.int .i64) (.pair (.pair (.int .i64) (.int .i64)) (.int .i64))) xs none none, .sl (.pair (.int .i64) (.pair (.pair (.int .i64) (.int .i64)) (.int .i64))) ws none none]), .val (.one (.fn 26 [] [0, 1])), .val (.one (.fn 27 [] []))], [(0, .box false [.int .i64 t]), (1, .box false [.int .i64 p, .int .i64 s])] =>
    bif tabOk xs ws then k (.agg [.ref 100000002 (.tail 0) none, .ref 100000003 (.tail 0) none]) [(0, .box false [.int .i64 t]), (1, .box false [.int .i64 p, .int .i64 s]), (100000002, .arr G (settleF (xs.filter (fun y => !qLk (t, p, s) y)) (ws.filter (fun y => !qNoD () y))).1 false), (100000003, .arr G (settleF (xs.filter (fun y => !qLk (t, p, s) y)) (ws.filter (fun y => !qNoD () y))).2 false)]
    else k (.agg [.sl G xs none none, .sl G ws none none]) [(0, .box false [.int .i64 t]), (1, .box false [.int .i64 p, .int .i64 s])]
  | _, _ => none
theorem woDrop_ok : COK Try.prog 23 pWoDrop := by
  refine ⟨CallOK.weaken (fno_ok (x := fx23) (own := [retKey]) (H := [(19, pTab), (32, pOwn), (50, orFn 26 pdfLk pdfNoD), (35, pSettle)]) (L := []) rfl rfl ⟨tab_ok, own_ok, orFn_ok pdfLk_ok pdfNoD_ok, settle_ok, trivial⟩ (by kernel_rfl) trivial).ok fun args m k r h => ?_⟩
  unfold pWoDrop at h
  split at h
  · rename_i xs ws t p s
    cases ht : tabOk xs ws with
    | false =>
      rw [ht, cond_false] at h
      conv => lhs; whnf
      repeat' ((first | split | ((conv => lhs; arg 3; whnf); split)) <;> first | (exfalso; rename_i hx; first | (simp (disch := omega) [leavesIds, V.leaves, Leaf.ids, mem?, nbeq, Ty.width, wrap_id, View.lenN, View.off, View.len_eq, sees_tail, sees_sub, rec_k, tn1, tn2, tn3, tn4, tn5, tn6, ht] at hx; done) | (simp (disch := omega) [leavesIds, V.leaves, Leaf.ids, mem?, nbeq, Ty.width, wrap_id, View.lenN, View.off, View.len_eq, sees_tail, sees_sub, rec_k, tn1, tn2, tn3, tn4, tn5, tn6, ht] at hx; omega) | (refine absurd (hx.symm.trans ?_) Bool.false_ne_true; (try simp only [Bool.and_eq_true, decide_eq_true_eq]); (try simp (disch := omega) [leavesIds, V.leaves, Leaf.ids, mem?, nbeq, Ty.width, wrap_id, View.lenN, View.off, View.len_eq, sees_tail, sees_sub, rec_k, tn1, tn2, tn3, tn4, tn5, tn6, ht]); (try omega); done) | omega) | (rename_i he; cases he; conv => lhs; whnf) | (conv => lhs; whnf))
      exact h
    | true =>
      have hlen := tabOk_len ht
      have hl1 := List.length_filter_le (fun y => !qLk (t, p, s) y) xs
      have hl2 := List.length_filter_le (fun y => !qNoD () y) ws
      have e2 : decide ((xs.filter (fun y => !qLk (t, p, s) y)).length + (ws.filter (fun y => !qNoD () y)).length ≤ 1000000) = true := decide_eq_true (by omega)
      rw [ht, cond_true] at h
      conv => lhs; whnf
      repeat' ((first | split | ((conv => lhs; arg 3; whnf); split)) <;> first | (exfalso; rename_i hx; first | (simp (disch := omega) [leavesIds, V.leaves, Leaf.ids, mem?, nbeq, Ty.width, wrap_id, View.lenN, View.off, View.len_eq, sees_tail, sees_sub, rec_k, tn1, tn2, tn3, tn4, tn5, tn6, ht] at hx; done) | (simp (disch := omega) [leavesIds, V.leaves, Leaf.ids, mem?, nbeq, Ty.width, wrap_id, View.lenN, View.off, View.len_eq, sees_tail, sees_sub, rec_k, tn1, tn2, tn3, tn4, tn5, tn6, ht] at hx; omega) | (refine absurd (hx.symm.trans ?_) Bool.false_ne_true; (try simp only [Bool.and_eq_true, decide_eq_true_eq]); (try simp (disch := omega) [leavesIds, V.leaves, Leaf.ids, mem?, nbeq, Ty.width, wrap_id, View.lenN, View.off, View.len_eq, sees_tail, sees_sub, rec_k, tn1, tn2, tn3, tn4, tn5, tn6, ht]); (try omega); done) | omega) | (rename_i he; cases he; conv => lhs; whnf) | (conv => lhs; whnf))
      all_goals first | exact h | (rename_i hx; exact tf e2 hx)
  · cases h

noncomputable def pWoRelease : List AV → Mem → AK → R := fun args m k =>
  match args, m with
  | [.val (.agg [.sl (.pair (.int .i64) (.pair (.pair (.int .i64) (.int .i64)) (.int .i64))) xs none none, .sl (.pair (.int .i64) (.pair (.pair (.int .i64) (.int .i64)) (.int .i64))) ws none none]), .val (.one (.fn 28 [] [0])), .val (.one (.fn 28 [] [0]))], [(0, .box false [.int .i64 t])] =>
    bif tabOk xs ws then k (.agg [.ref 100000001 (.tail 0) none, .ref 100000002 (.tail 0) none]) [(0, .box false [.int .i64 t]), (100000001, .arr G (settleF (xs.filter (fun y => !qTx t y)) (ws.filter (fun y => !qTx t y))).1 false), (100000002, .arr G (settleF (xs.filter (fun y => !qTx t y)) (ws.filter (fun y => !qTx t y))).2 false)]
    else k (.agg [.sl G xs none none, .sl G ws none none]) [(0, .box false [.int .i64 t])]
  | _, _ => none
theorem woRelease_ok : COK Try.prog 23 pWoRelease := by
  refine ⟨CallOK.weaken (fno_ok (x := fx23) (own := [retKey]) (H := [(19, pTab), (32, pOwn), (50, pdfTx), (35, pSettle)]) (L := []) rfl rfl ⟨tab_ok, own_ok, pdfTx_ok, settle_ok, trivial⟩ (by kernel_rfl) trivial).ok fun args m k r h => ?_⟩
  unfold pWoRelease at h
  split at h
  · rename_i xs ws t
    cases ht : tabOk xs ws with
    | false =>
      rw [ht, cond_false] at h
      conv => lhs; whnf
      repeat' ((first | split | ((conv => lhs; arg 3; whnf); split)) <;> first | (exfalso; rename_i hx; first | (simp (disch := omega) [leavesIds, V.leaves, Leaf.ids, mem?, nbeq, Ty.width, wrap_id, View.lenN, View.off, View.len_eq, sees_tail, sees_sub, rec_k, tn1, tn2, tn3, tn4, tn5, tn6, ht] at hx; done) | (simp (disch := omega) [leavesIds, V.leaves, Leaf.ids, mem?, nbeq, Ty.width, wrap_id, View.lenN, View.off, View.len_eq, sees_tail, sees_sub, rec_k, tn1, tn2, tn3, tn4, tn5, tn6, ht] at hx; omega) | (refine absurd (hx.symm.trans ?_) Bool.false_ne_true; (try simp only [Bool.and_eq_true, decide_eq_true_eq]); (try simp (disch := omega) [leavesIds, V.leaves, Leaf.ids, mem?, nbeq, Ty.width, wrap_id, View.lenN, View.off, View.len_eq, sees_tail, sees_sub, rec_k, tn1, tn2, tn3, tn4, tn5, tn6, ht]); (try omega); done) | omega) | (rename_i he; cases he; conv => lhs; whnf) | (conv => lhs; whnf))
      exact h
    | true =>
      have hlen := tabOk_len ht
      have hl1 := List.length_filter_le (fun y => !qTx t y) xs
      have hl2 := List.length_filter_le (fun y => !qTx t y) ws
      have e2 : decide ((xs.filter (fun y => !qTx t y)).length + (ws.filter (fun y => !qTx t y)).length ≤ 1000000) = true := decide_eq_true (by omega)
      rw [ht, cond_true] at h
      conv => lhs; whnf
      repeat' ((first | split | ((conv => lhs; arg 3; whnf); split)) <;> first | (exfalso; rename_i hx; first | (simp (disch := omega) [leavesIds, V.leaves, Leaf.ids, mem?, nbeq, Ty.width, wrap_id, View.lenN, View.off, View.len_eq, sees_tail, sees_sub, rec_k, tn1, tn2, tn3, tn4, tn5, tn6, ht] at hx; done) | (simp (disch := omega) [leavesIds, V.leaves, Leaf.ids, mem?, nbeq, Ty.width, wrap_id, View.lenN, View.off, View.len_eq, sees_tail, sees_sub, rec_k, tn1, tn2, tn3, tn4, tn5, tn6, ht] at hx; omega) | (refine absurd (hx.symm.trans ?_) Bool.false_ne_true; (try simp only [Bool.and_eq_true, decide_eq_true_eq]); (try simp (disch := omega) [leavesIds, V.leaves, Leaf.ids, mem?, nbeq, Ty.width, wrap_id, View.lenN, View.off, View.len_eq, sees_tail, sees_sub, rec_k, tn1, tn2, tn3, tn4, tn5, tn6, ht]); (try omega); done) | omega) | (rename_i he; cases he; conv => lhs; whnf) | (conv => lhs; whnf))
      all_goals first | exact h | (rename_i hx; exact tf e2 hx)
  · cases h
end Go.Ev.Tab
