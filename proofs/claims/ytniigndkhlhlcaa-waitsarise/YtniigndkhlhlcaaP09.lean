import Derived.Test.YtniigndkhlhlcaaP08
set_option linter.all false
/- The table of locks: its functions that others call: contracts. Own work. -/
set_option maxRecDepth 100000
set_option maxHeartbeats 1000000
set_option linter.unusedVariables false
namespace Go.Ev.Tab
open Go Go.Ev.X Go.Proofs

theorem fNo (xs : List GG) : (xs.filter fun y => !qNo () y) = xs := List.filter_eq_self.mpr fun a _ => by rw [qNo_eq]; rfl
theorem fNoD (xs : List GG) : (xs.filter fun y => !qNoD () y) = xs := List.filter_eq_self.mpr fun a _ => by rw [qNoD_eq]; rfl
def notTx (t : Int) (xs : List GG) : List GG := xs.filter fun y => !(y.1 == t)
def notLk (t p s : Int) (xs : List GG) : List GG := xs.filter fun y => !(y.1 == t && (y.2.1.1 == p && y.2.1.2 == s))
theorem fTx (t : Int) (xs : List GG) : (xs.filter fun y => !qTx t y) = notTx t xs := by unfold notTx; congr 1; funext y; rw [qTx_eq]
theorem fTxC (t : Int) (xs : List GG) : (xs.filter fun y => !qTxC t y) = notTx t xs := by unfold notTx; congr 1; funext y; rw [qTxC_eq]
theorem fLk (t p s : Int) (xs : List GG) : (xs.filter fun y => !qLk (t, p, s) y) = notLk t p s xs := by unfold notLk; congr 1; funext y; rw [qLk_eq]
abbrev tabAV (x : List GG × List GG) : AV := .agg [.sl G x.1 none none, .sl G x.2 none none]
def cancelF (xs ws : List GG) (t : Int) : List GG × List GG := bif tabOk xs ws then settleF xs (notTx t ws) else (xs, ws)
def dropF (xs ws : List GG) (t p s : Int) : List GG × List GG := bif tabOk xs ws then settleF (notLk t p s xs) ws else (xs, ws)
def releaseF (xs ws : List GG) (t : Int) : List GG × List GG := bif tabOk xs ws then settleF (notTx t xs) (notTx t ws) else (xs, ws)
def pCancel := ansP [TB, I] fun x => tabAV (cancelF x.1.1 x.1.2 x.2.1)
theorem cancel_ok : COK Try.prog 11 pCancel := by
  refine ans_cok (fn_ok (x := fx11) (H := [(23, pWoCancel)]) (L := []) rfl rfl ⟨woCancel_ok, trivial⟩ (by kernel_rfl) trivial) ?_
  rintro ⟨⟨xs, ws⟩, t, u⟩ k hb
  clear hb
  show _ = k (tabAV (cancelF xs ws t)) []
  unfold cancelF
  have e : settleF xs (notTx t ws) = settleF (xs.filter fun y => !qNo () y) (ws.filter fun y => !qTxC t y) := by rw [fNo, fTxC]
  rw [e]
  clear e
  cases ht : tabOk xs ws with
  | false =>
    conv => lhs; whnf
    repeat' ((first | split | ((conv => lhs; arg 3; whnf); split)) <;> first | (exfalso; rename_i hx; first | (simp (disch := omega) [leavesIds, V.leaves, Leaf.ids, mem?, nbeq, Ty.width, wrap_id, View.lenN, View.off, View.len_eq, sees_tail, sees_sub, rec_k, tn1, tn2, tn3, tn4, tn5, tn6, ht] at hx; done) | (simp (disch := omega) [leavesIds, V.leaves, Leaf.ids, mem?, nbeq, Ty.width, wrap_id, View.lenN, View.off, View.len_eq, sees_tail, sees_sub, rec_k, tn1, tn2, tn3, tn4, tn5, tn6, ht] at hx; omega) | (refine absurd (hx.symm.trans ?_) Bool.false_ne_true; (try simp only [Bool.and_eq_true, decide_eq_true_eq]); (try simp (disch := omega) [leavesIds, V.leaves, Leaf.ids, mem?, nbeq, Ty.width, wrap_id, View.lenN, View.off, View.len_eq, sees_tail, sees_sub, rec_k, tn1, tn2, tn3, tn4, tn5, tn6, ht]); (try omega); done) | omega) | (rename_i he; cases he; conv => lhs; whnf) | (conv => lhs; whnf))
    rfl
  | true =>
    conv => lhs; whnf
    repeat' ((first | split | ((conv => lhs; arg 3; whnf); split)) <;> first | (exfalso; rename_i hx; first | (simp (disch := omega) [leavesIds, V.leaves, Leaf.ids, mem?, nbeq, Ty.width, wrap_id, View.lenN, View.off, View.len_eq, sees_tail, sees_sub, rec_k, tn1, tn2, tn3, tn4, tn5, tn6, ht] at hx; done) | (simp (disch := omega) [leavesIds, V.leaves, Leaf.ids, mem?, nbeq, Ty.width, wrap_id, View.lenN, View.off, View.len_eq, sees_tail, sees_sub, rec_k, tn1, tn2, tn3, tn4, tn5, tn6, ht] at hx; omega) | (refine absurd (hx.symm.trans ?_) Bool.false_ne_true; (try simp only [Bool.and_eq_true, decide_eq_true_eq]); (try simp (disch := omega) [leavesIds, V.leaves, Leaf.ids, mem?, nbeq, Ty.width, wrap_id, View.lenN, View.off, View.len_eq, sees_tail, sees_sub, rec_k, tn1, tn2, tn3, tn4, tn5, tn6, ht]); (try omega); done) | omega) | (rename_i he; cases he; conv => lhs; whnf) | (conv => lhs; whnf))
    rfl
def pDrop := ansP [TB, I, LK] fun x => tabAV (dropF x.1.1 x.1.2 x.2.1 x.2.2.1.1 x.2.2.1.2)
theorem drop_ok : COK Try.prog 12 pDrop := by
  refine ans_cok (fn_ok (x := fx12) (H := [(23, pWoDrop)]) (L := []) rfl rfl ⟨woDrop_ok, trivial⟩ (by kernel_rfl) trivial) ?_
  rintro ⟨⟨xs, ws⟩, t, ⟨p, s⟩, u⟩ k hb
  clear hb
  show _ = k (tabAV (dropF xs ws t p s)) []
  unfold dropF
  have e : settleF (notLk t p s xs) ws = settleF (xs.filter fun y => !qLk (t, p, s) y) (ws.filter fun y => !qNoD () y) := by rw [fNoD, fLk]
  rw [e]
  clear e
  cases ht : tabOk xs ws with
  | false =>
    conv => lhs; whnf
    repeat' ((first | split | ((conv => lhs; arg 3; whnf); split)) <;> first | (exfalso; rename_i hx; first | (simp (disch := omega) [leavesIds, V.leaves, Leaf.ids, mem?, nbeq, Ty.width, wrap_id, View.lenN, View.off, View.len_eq, sees_tail, sees_sub, rec_k, tn1, tn2, tn3, tn4, tn5, tn6, ht] at hx; done) | (simp (disch := omega) [leavesIds, V.leaves, Leaf.ids, mem?, nbeq, Ty.width, wrap_id, View.lenN, View.off, View.len_eq, sees_tail, sees_sub, rec_k, tn1, tn2, tn3, tn4, tn5, tn6, ht] at hx; omega) | (refine absurd (hx.symm.trans ?_) Bool.false_ne_true; (try simp only [Bool.and_eq_true, decide_eq_true_eq]); (try simp (disch := omega) [leavesIds, V.leaves, Leaf.ids, mem?, nbeq, Ty.width, wrap_id, View.lenN, View.off, View.len_eq, sees_tail, sees_sub, rec_k, tn1, tn2, tn3, tn4, tn5, tn6, ht]); (try omega); done) | omega) | (rename_i he; cases he; conv => lhs; whnf) | (conv => lhs; whnf))
    rfl
  | true =>
    conv => lhs; whnf
    repeat' ((first | split | ((conv => lhs; arg 3; whnf); split)) <;> first | (exfalso; rename_i hx; first | (simp (disch := omega) [leavesIds, V.leaves, Leaf.ids, mem?, nbeq, Ty.width, wrap_id, View.lenN, View.off, View.len_eq, sees_tail, sees_sub, rec_k, tn1, tn2, tn3, tn4, tn5, tn6, ht] at hx; done) | (simp (disch := omega) [leavesIds, V.leaves, Leaf.ids, mem?, nbeq, Ty.width, wrap_id, View.lenN, View.off, View.len_eq, sees_tail, sees_sub, rec_k, tn1, tn2, tn3, tn4, tn5, tn6, ht] at hx; omega) | (refine absurd (hx.symm.trans ?_) Bool.false_ne_true; (try simp only [Bool.and_eq_true, decide_eq_true_eq]); (try simp (disch := omega) [leavesIds, V.leaves, Leaf.ids, mem?, nbeq, Ty.width, wrap_id, View.lenN, View.off, View.len_eq, sees_tail, sees_sub, rec_k, tn1, tn2, tn3, tn4, tn5, tn6, ht]); (try omega); done) | omega) | (rename_i he; cases he; conv => lhs; whnf) | (conv => lhs; whnf))
    rfl
def pRelease := ansP [TB, I] fun x => tabAV (releaseF x.1.1 x.1.2 x.2.1)
theorem release_ok : COK Try.prog 13 pRelease := by
  refine ans_cok (fn_ok (x := fx13) (H := [(23, pWoRelease)]) (L := []) rfl rfl ⟨woRelease_ok, trivial⟩ (by kernel_rfl) trivial) ?_
  rintro ⟨⟨xs, ws⟩, t, u⟩ k hb
  clear hb
  show _ = k (tabAV (releaseF xs ws t)) []
  unfold releaseF
  rw [← fTx, ← fTx]
  cases ht : tabOk xs ws with
  | false =>
    conv => lhs; whnf
    repeat' ((first | split | ((conv => lhs; arg 3; whnf); split)) <;> first | (exfalso; rename_i hx; first | (simp (disch := omega) [leavesIds, V.leaves, Leaf.ids, mem?, nbeq, Ty.width, wrap_id, View.lenN, View.off, View.len_eq, sees_tail, sees_sub, rec_k, tn1, tn2, tn3, tn4, tn5, tn6, ht] at hx; done) | (simp (disch := omega) [leavesIds, V.leaves, Leaf.ids, mem?, nbeq, Ty.width, wrap_id, View.lenN, View.off, View.len_eq, sees_tail, sees_sub, rec_k, tn1, tn2, tn3, tn4, tn5, tn6, ht] at hx; omega) | (refine absurd (hx.symm.trans ?_) Bool.false_ne_true; (try simp only [Bool.and_eq_true, decide_eq_true_eq]); (try simp (disch := omega) [leavesIds, V.leaves, Leaf.ids, mem?, nbeq, Ty.width, wrap_id, View.lenN, View.off, View.len_eq, sees_tail, sees_sub, rec_k, tn1, tn2, tn3, tn4, tn5, tn6, ht]); (try omega); done) | omega) | (rename_i he; cases he; conv => lhs; whnf) | (conv => lhs; whnf))
    rfl
  | true =>
    conv => lhs; whnf
    repeat' ((first | split | ((conv => lhs; arg 3; whnf); split)) <;> first | (exfalso; rename_i hx; first | (simp (disch := omega) [leavesIds, V.leaves, Leaf.ids, mem?, nbeq, Ty.width, wrap_id, View.lenN, View.off, View.len_eq, sees_tail, sees_sub, rec_k, tn1, tn2, tn3, tn4, tn5, tn6, ht] at hx; done) | (simp (disch := omega) [leavesIds, V.leaves, Leaf.ids, mem?, nbeq, Ty.width, wrap_id, View.lenN, View.off, View.len_eq, sees_tail, sees_sub, rec_k, tn1, tn2, tn3, tn4, tn5, tn6, ht] at hx; omega) | (refine absurd (hx.symm.trans ?_) Bool.false_ne_true; (try simp only [Bool.and_eq_true, decide_eq_true_eq]); (try simp (disch := omega) [leavesIds, V.leaves, Leaf.ids, mem?, nbeq, Ty.width, wrap_id, View.lenN, View.off, View.len_eq, sees_tail, sees_sub, rec_k, tn1, tn2, tn3, tn4, tn5, tn6, ht]); (try omega); done) | omega) | (rename_i he; cases he; conv => lhs; whnf) | (conv => lhs; whnf))
    rfl

/-! ### a request -/
inductive Req where
  | err (e : Int)
  | ok (xs ws : List GG) (held : Bool)
def reqF (xs ws : List GG) (g : GG) : Req :=
  bif tabOk xs ws then
    bif valid g then
      bif (waitF xs ws g.1).2 then
        bif (waitF xs ws g.1).1.1 == g.1 && ((waitF xs ws g.1).1.2.1.1 == g.2.1.1 && (waitF xs ws g.1).1.2.1.2 == g.2.1.2 && (waitF xs ws g.1).1.2.2 == g.2.2) then .ok xs ws false else .err 15
      else bif decide (modeI xs g.1 g.2.1 ≥ g.2.2) then .ok xs ws true
      else bif decide (xs.length + ws.length = 1024) then .err 21
      else .ok (settleF xs (ins ws (placeF xs ws g) g)).1 (settleF xs (ins ws (placeF xs ws g) g)).2 (decide (modeI (settleF xs (ins ws (placeF xs ws g) g)).1 g.1 g.2.1 ≥ g.2.2))
    else .err 1
  else .err 17
abbrev nilG : Leaf := .sl G [] (some true) (some 0)
def reqAV : Req → AV
  | .err e => .tup [.agg [nilG, nilG], .one (.bool false), .one (.int .i64 e)]
  | .ok xs ws h => .tup [.agg [.sl G xs none none, .sl G ws none none], .one (.bool h), .one (.int .i64 0)]
def pRequest := ansP [TB, G] fun x => reqAV (reqF x.1.1 x.1.2 x.2.1)
theorem request_ok : COK Try.prog 14 pRequest := by
  refine ans_cok (fn_ok (x := fx14) (H := [(19, pTab), (29, pValid), (30, pWaiting), (31, pMode), (32, pOwn), (34, pPlace), (33, pInsert G), (35, pSettle)]) (L := []) rfl rfl ⟨tab_ok, valid_ok, waiting_ok, mode_ok, own_ok, place_ok, insG_ok, settle_ok, trivial⟩ (by kernel_rfl) trivial) ?_
  rintro ⟨⟨xs, ws⟩, ⟨ga, ⟨gb, gc⟩, gd⟩, u⟩ k hb
  clear hb
  show _ = k (reqAV (reqF xs ws (ga, (gb, gc), gd))) []
  obtain ⟨R, hR⟩ : ∃ R, R = reqF xs ws (ga, (gb, gc), gd) := ⟨_, rfl⟩
  rw [← hR]
  unfold reqF at hR
  cases ht : tabOk xs ws with
  | false =>
    rw [ht, cond_false] at hR
    subst hR
    conv => lhs; whnf
    repeat' ((first | split | ((conv => lhs; arg 3; whnf); split)) <;> first | (exfalso; rename_i hx; first | (simp (disch := omega) [leavesIds, V.leaves, Leaf.ids, mem?, nbeq, Ty.width, wrap_id, View.lenN, View.off, View.len_eq, sees_tail, sees_sub, rec_k, tn1, tn2, tn3, tn4, tn5, tn6, ht] at hx; done) | (simp (disch := omega) [leavesIds, V.leaves, Leaf.ids, mem?, nbeq, Ty.width, wrap_id, View.lenN, View.off, View.len_eq, sees_tail, sees_sub, rec_k, tn1, tn2, tn3, tn4, tn5, tn6, ht] at hx; omega) | (refine absurd (hx.symm.trans ?_) Bool.false_ne_true; (try simp only [Bool.and_eq_true, decide_eq_true_eq]); (try simp (disch := omega) [leavesIds, V.leaves, Leaf.ids, mem?, nbeq, Ty.width, wrap_id, View.lenN, View.off, View.len_eq, sees_tail, sees_sub, rec_k, tn1, tn2, tn3, tn4, tn5, tn6, ht]); (try omega); done) | omega) | (rename_i he; cases he; conv => lhs; whnf) | (conv => lhs; whnf))
    rfl
  | true =>
    rw [ht, cond_true] at hR
    have hlen := tabOk_len ht
    cases hv : valid (ga, (gb, gc), gd) with
    | false =>
      rw [hv, cond_false] at hR
      subst hR
      conv => lhs; whnf
      repeat' ((first | split | ((conv => lhs; arg 3; whnf); split)) <;> first | (exfalso; rename_i hx; first | (simp (disch := omega) [leavesIds, V.leaves, Leaf.ids, mem?, nbeq, Ty.width, wrap_id, View.lenN, View.off, View.len_eq, sees_tail, sees_sub, rec_k, tn1, tn2, tn3, tn4, tn5, tn6, ht, hv] at hx; done) | (simp (disch := omega) [leavesIds, V.leaves, Leaf.ids, mem?, nbeq, Ty.width, wrap_id, View.lenN, View.off, View.len_eq, sees_tail, sees_sub, rec_k, tn1, tn2, tn3, tn4, tn5, tn6, ht, hv] at hx; omega) | (refine absurd (hx.symm.trans ?_) Bool.false_ne_true; (try simp only [Bool.and_eq_true, decide_eq_true_eq]); (try simp (disch := omega) [leavesIds, V.leaves, Leaf.ids, mem?, nbeq, Ty.width, wrap_id, View.lenN, View.off, View.len_eq, sees_tail, sees_sub, rec_k, tn1, tn2, tn3, tn4, tn5, tn6, ht, hv]); (try omega); done) | omega) | (rename_i he; cases he; conv => lhs; whnf) | (conv => lhs; whnf))
      rfl
    | true =>
      rw [hv, cond_true] at hR
      generalize hw : waitF xs ws ga = W
      obtain ⟨⟨wa, ⟨wb, wc⟩, wd⟩, wh⟩ := W
      dsimp only at hR
      rw [hw] at hR
      dsimp only at hR
      have e1 : (!tabOk xs ws) = false := by rw [ht]; rfl
      have e2 : (!valid (ga, (gb, gc), gd)) = false := by rw [hv]; rfl
      have e3 : decide (List.length ws ≤ 1048576) = true := decide_eq_true (by omega)
      cases wh with
      | true =>
        rw [cond_true] at hR
        cases hq : (wa == ga && (wb == gb && wc == gc && wd == gd)) with
        | true =>
          rw [hq, cond_true] at hR
          subst hR
          conv => lhs; whnf
          repeat' ((first | split | ((conv => lhs; arg 3; whnf); split)) <;> first | (exfalso; rename_i hx; first | (simp (disch := omega) [leavesIds, V.leaves, Leaf.ids, mem?, nbeq, Ty.width, wrap_id, View.lenN, View.off, View.len_eq, sees_tail, sees_sub, rec_k, tn1, tn2, tn3, tn4, tn5, tn6, ht, hv, hw] at hx; done) | (simp (disch := omega) [leavesIds, V.leaves, Leaf.ids, mem?, nbeq, Ty.width, wrap_id, View.lenN, View.off, View.len_eq, sees_tail, sees_sub, rec_k, tn1, tn2, tn3, tn4, tn5, tn6, ht, hv, hw] at hx; omega) | (refine absurd (hx.symm.trans ?_) Bool.false_ne_true; (try simp only [Bool.and_eq_true, decide_eq_true_eq]); (try simp (disch := omega) [leavesIds, V.leaves, Leaf.ids, mem?, nbeq, Ty.width, wrap_id, View.lenN, View.off, View.len_eq, sees_tail, sees_sub, rec_k, tn1, tn2, tn3, tn4, tn5, tn6, ht, hv, hw]); (try omega); done) | omega) | (rename_i he; cases he; conv => lhs; whnf) | (conv => lhs; whnf))
          all_goals first | rfl | (exfalso; simp_all [beq_pair, beq_int]; done)
        | false =>
          rw [hq, cond_false] at hR
          subst hR
          conv => lhs; whnf
          repeat' ((first | split | ((conv => lhs; arg 3; whnf); split)) <;> first | (exfalso; rename_i hx; first | (simp (disch := omega) [leavesIds, V.leaves, Leaf.ids, mem?, nbeq, Ty.width, wrap_id, View.lenN, View.off, View.len_eq, sees_tail, sees_sub, rec_k, tn1, tn2, tn3, tn4, tn5, tn6, ht, hv, hw] at hx; done) | (simp (disch := omega) [leavesIds, V.leaves, Leaf.ids, mem?, nbeq, Ty.width, wrap_id, View.lenN, View.off, View.len_eq, sees_tail, sees_sub, rec_k, tn1, tn2, tn3, tn4, tn5, tn6, ht, hv, hw] at hx; omega) | (refine absurd (hx.symm.trans ?_) Bool.false_ne_true; (try simp only [Bool.and_eq_true, decide_eq_true_eq]); (try simp (disch := omega) [leavesIds, V.leaves, Leaf.ids, mem?, nbeq, Ty.width, wrap_id, View.lenN, View.off, View.len_eq, sees_tail, sees_sub, rec_k, tn1, tn2, tn3, tn4, tn5, tn6, ht, hv, hw]); (try omega); done) | omega) | (rename_i he; cases he; conv => lhs; whnf) | (conv => lhs; whnf))
          all_goals first | rfl | (exfalso; simp_all [beq_pair, beq_int]; done)
      | false =>
        have e4 : (waitF xs ws ga).2 = false := by rw [hw]
        rw [cond_false] at hR
        cases h5 : decide (modeI xs ga (gb, gc) ≥ gd) with
        | true =>
          rw [h5, cond_true] at hR
          subst hR
          conv => lhs; whnf
          split
          · rename_i hx
            exact tf hx (e1)
          conv => lhs; whnf
          split
          · rename_i hx
            exact tf hx (e2)
          conv => lhs; whnf
          split
          rotate_left
          · rename_i hx
            exact tf (e3) hx
          conv => lhs; whnf
          split
          · rename_i hx
            exact tf hx (e4)
          conv => lhs; whnf
          split
          · rename_i hx
            exact tf hx (e4)
          conv => lhs; whnf
          split
          rotate_left
          · rename_i hx
            exact tf (h5) hx
          conv => lhs; whnf
          rfl
        | false =>
          rw [h5, cond_false] at hR
          cases h6 : decide (List.length xs + List.length ws = 1024) with
          | true =>
            rw [h6, cond_true] at hR
            subst hR
            have h6' := of_decide_eq_true h6
            have e6 : (IntKind.i64.wrap ((List.length xs : Int) + (List.length ws : Int)) == 1024) = true := by rw [wrap_id (by omega) (by omega)]; simp; omega
            conv => lhs; whnf
            split
            · rename_i hx
              exact tf hx (e1)
            conv => lhs; whnf
            split
            · rename_i hx
              exact tf hx (e2)
            conv => lhs; whnf
            split
            rotate_left
            · rename_i hx
              exact tf (e3) hx
            conv => lhs; whnf
            split
            · rename_i hx
              exact tf hx (e4)
            conv => lhs; whnf
            split
            · rename_i hx
              exact tf hx (e4)
            conv => lhs; whnf
            split
            · rename_i hx
              exact tf hx (h5)
            conv => lhs; whnf
            split
            rotate_left
            · rename_i hx
              exact tf (e6) hx
            conv => lhs; whnf
            rfl
          | false =>
            rw [h6, cond_false] at hR
            have h6' := of_decide_eq_false h6
            have e6 : (IntKind.i64.wrap ((List.length xs : Int) + (List.length ws : Int)) == 1024) = false := by rw [wrap_id (by omega) (by omega)]; simp; omega
            have e7 : (decide (List.length xs ≤ 1048576) && decide (List.length ws ≤ 1048576)) = true := by rw [decide_eq_true (by omega), decide_eq_true (by omega)]; rfl
            have hp := placeF_le xs ws (ga, (gb, gc), gd)
            have e8 : (decide (0 ≤ ((placeF xs ws (ga, (gb, gc), gd) : Nat) : Int)) && decide (((placeF xs ws (ga, (gb, gc), gd) : Nat) : Int) ≤ List.length ws) && decide (List.length ws ≤ 1048576)) = true := by
              rw [decide_eq_true (by omega), decide_eq_true (by omega), decide_eq_true (by omega)]; rfl
            have e9 : decide (List.length xs + (ins ws (placeF xs ws (ga, (gb, gc), gd)) (ga, (gb, gc), gd)).length ≤ 1000000) = true := decide_eq_true (by simp [ins]; omega)
            conv => lhs; whnf
            split
            · rename_i hx
              exact tf hx (e1)
            conv => lhs; whnf
            split
            · rename_i hx
              exact tf hx (e2)
            conv => lhs; whnf
            split
            rotate_left
            · rename_i hx
              exact tf (e3) hx
            conv => lhs; whnf
            split
            · rename_i hx
              exact tf hx (e4)
            conv => lhs; whnf
            split
            · rename_i hx
              exact tf hx (e4)
            conv => lhs; whnf
            split
            · rename_i hx
              exact tf hx (h5)
            conv => lhs; whnf
            split
            · rename_i hx
              exact tf hx (e6)
            conv => lhs; whnf
            split
            rotate_left
            · rename_i hx
              exact tf (e7) hx
            conv => lhs; whnf
            subst hR
            repeat' ((first | split | ((conv => lhs; arg 3; whnf); split)) <;> first | (exfalso; rename_i hx; first | (simp (disch := omega) [leavesIds, V.leaves, Leaf.ids, mem?, nbeq, Ty.width, wrap_id, View.lenN, View.off, View.len_eq, sees_tail, sees_sub, rec_k, tn1, tn2, tn3, tn4, tn5, tn6, ins] at hx; done) | (simp (disch := omega) [leavesIds, V.leaves, Leaf.ids, mem?, nbeq, Ty.width, wrap_id, View.lenN, View.off, View.len_eq, sees_tail, sees_sub, rec_k, tn1, tn2, tn3, tn4, tn5, tn6, ins] at hx; omega) | (refine absurd (hx.symm.trans ?_) Bool.false_ne_true; (try simp only [Bool.and_eq_true, decide_eq_true_eq]); (try simp (disch := omega) [leavesIds, V.leaves, Leaf.ids, mem?, nbeq, Ty.width, wrap_id, View.lenN, View.off, View.len_eq, sees_tail, sees_sub, rec_k, tn1, tn2, tn3, tn4, tn5, tn6, ins]); (try omega); done) | omega) | (rename_i he; cases he; conv => lhs; whnf) | (conv => lhs; whnf))
            all_goals rfl
end Go.Ev.Tab

/- Who blocks: the contract. Own work. -/
set_option maxRecDepth 100000
set_option maxHeartbeats 1000000
set_option linter.unusedVariables false
namespace Go.Ev.Tab
open Go Go.Ev.X Go.Proofs

/-! ### values that forget what only their maker knows -/
def plainV : V → V
  | .one l => .one (plainLeaf l)
  | .agg ls => .agg (ls.map plainLeaf)
def plainAV : AV → AV
  | .val v => .val (plainV v)
  | .tup vs => .tup (vs.map plainV)
  | v => v
theorem plain_leaf {ok : Ok} {μ : Mu} {m : Mem} {w : World} {l : Leaf} {cs : List Value} (h : RepL ok μ m w l cs) : RepL ok μ m w (plainLeaf l) cs := by
  cases l with
  | sl τ xs nl lim =>
    obtain ⟨hT, a, n, cap, e, _, _, _⟩ := h
    exact ⟨hT, a, n, cap, e, by simp, by simp, by simp⟩
  | _ => exact h
theorem plain_leaves {ok : Ok} {μ : Mu} {m : Mem} {w : World} : ∀ {ls : List Leaf} {cs : List Value}, RepLs ok μ m w ls cs → RepLs ok μ m w (ls.map plainLeaf) cs
  | [], _, h => h
  | l :: ls, cs, ⟨c, d, e, h1, h2⟩ => ⟨c, d, e, plain_leaf h1, plain_leaves h2⟩
theorem plain_V {ok : Ok} {μ : Mu} {m : Mem} {w : World} {x : V} {v : Value} (h : RepV ok μ m w x v) : RepV ok μ m w (plainV x) v := by
  cases x with
  | one l => exact plain_leaf h
  | agg ls => obtain ⟨cs, e, h⟩ := h; exact ⟨cs, e, plain_leaves h⟩
theorem plain_Vs {ok : Ok} {μ : Mu} {m : Mem} {w : World} : ∀ {xs : List V} {vs : List Value}, RepVs ok μ m w xs vs → RepVs ok μ m w (xs.map plainV) vs
  | [], _, h => h
  | x :: xs, vs, ⟨v, s, e, h1, h2⟩ => ⟨v, s, e, plain_V h1, plain_Vs h2⟩
theorem plain_AV {ok : Ok} {μ : Mu} {m : Mem} {w : World} {x : AV} {v : Value} (h : RepAV ok μ m w x v) : RepAV ok μ m w (plainAV x) v := by
  cases x with
  | val x => exact plain_V h
  | tup xs => obtain ⟨vs, e, h⟩ := h; exact ⟨vs, e, plain_Vs h⟩
  | _ => exact h
/-- A body whose answer is plain. -/
def plainB (b : List AV → Mem → AK → R) : List AV → Mem → AK → R := fun args m k => b args m fun v m => k (plainAV v) m
theorem cok_plain {P : Program} {f : FuncId} {b : List AV → Mem → AK → R} (h : COK P f b) : COK P f (plainB b) := by
  refine ⟨fun {ok μ m w args vs k r} hS hx hp => (h.ok hS hx hp).mono ?_⟩
  rintro v w' ⟨rv, ok', μ', m', hk, hmv, hr⟩
  exact ⟨_, ok', μ', m', hk, hmv, plain_AV hr⟩

/-! ### sorting at most 12 -/
noncomputable def pSort12 : List AV → Mem → AK → R := fun args m k =>
  match args, m with
  | [.val (.one (.ref 0 (.tail 0) none))], [(0, .arr (.int .i64) xs false)] => gd (decide (xs.length ≤ 12)) (k (.tup []) [(0, .arr I (sortI xs) false)])
  | _, _ => none
theorem sort12_ok : COK Try.prog 47 pSort12 := by
  refine ⟨CallOK.weaken c47_ok.ok fun args m k r h => ?_⟩
  unfold pSort12 at h
  split at h
  · rename_i xs
    obtain ⟨hb, h⟩ := gd_some.mp h
    exact (c47_eq xs (of_decide_eq_true hb) k).trans h
  · cases h

/-! ### the closure of blockers -/
structure B9 where
  out : List Int
  k : Nat
  l : List GG
  j : Nat
abbrev bM (xs ws l0 l1 : List GG) (out : List Int) : Mem := [(100000000, .box false [.sl G xs none none, .sl G ws none none]), (100000001, .arr I out false), (100000002, .arr (.sl G) [l0, l1] false)]
abbrev bV (i : Nat) (k : Nat) : List AV := [sP 100000000, .one (.int .i64 i), refA 100000001, refA 100000002, .one (.int .i64 2), .one (.int .i64 k)]
noncomputable def b9L (xs ws l0 l1 : List GG) (i : Nat) := loopP (α := B9) (fun x => [sP 100000000, .one (.int .i64 i), refA 100000001, refA 100000002, .one (.int .i64 2), .one (.int .i64 x.k), .one (.sl G x.l none none), .one (.int .i64 x.l.length), .one (.int .i64 x.j)])
  (fun x => bM xs ws l0 l1 x.out) (fun x => i < ws.length ∧ ws.length ≤ 1048576 ∧ x.out.length + (x.l.length - x.j) ≤ 4000000 ∧ x.l.length ≤ 1048576)
  (fun x K => K.exit 2 (bV i x.k) (bM xs ws l0 l1 (x.out ++ blk (wOf ws i) (x.l.drop x.j))))
theorem arrI_inj {i : Nat} {a b : List Int} {p q : Nat × Obj} {m n : Mem} (h : p :: (i, Obj.arr I a false) :: m = q :: (i, Obj.arr I b false) :: n) : a = b := by
  simp only [List.cons.injEq, Prod.mk.injEq, Obj.arr.injEq] at h
  simpa using h.2.1
theorem b9L_inj (xs ws l0 l1 : List GG) (i : Nat) (x y : B9) (h : [sP 100000000, .one (.int .i64 i), refA 100000001, refA 100000002, .one (.int .i64 2), .one (.int .i64 x.k), .one (.sl G x.l none none), .one (.int .i64 x.l.length), .one (.int .i64 x.j)] =
    [sP 100000000, .one (.int .i64 i), refA 100000001, refA 100000002, .one (.int .i64 2), .one (.int .i64 y.k), .one (.sl G y.l none none), .one (.int .i64 y.l.length), .one (.int .i64 y.j)]) (h' : bM xs ws l0 l1 x.out = bM xs ws l0 l1 y.out) : x = y := by
  obtain ⟨a, b, c, d⟩ := x
  obtain ⟨a', b', c', d'⟩ := y
  simp only [List.cons.injEq] at h
  have h1 := int_last h.2.2.2.2.2.1
  have h2 := av_sl_inj h.2.2.2.2.2.2.1
  have h3 := int_last h.2.2.2.2.2.2.2.2.1
  have h4 := arrI_inj h'
  try dsimp only at h1
  try dsimp only at h2
  try dsimp only at h3
  try dsimp only at h4
  rw [h1, h2, h3, h4]
structure B6 where
  out : List Int
  k : Nat
noncomputable def b6L (xs ws l0 l1 : List GG) (i : Nat) := loopP (α := B6) (fun x => bV i x.k) (fun x => bM xs ws l0 l1 x.out) (fun x => i < ws.length ∧ ws.length ≤ 1048576 ∧ x.k ≤ 2 ∧ x.out.length ≤ capB x.k ∧ l0.length ≤ 1048576 ∧ l1.length ≤ 1048576)
  (fun x K => K.exit 0 [refA 100000000] [(100000000, .arr I (x.out ++ rest (wOf ws i) l0 l1 x.k) false)])
theorem b6L_inj (xs ws l0 l1 : List GG) (i : Nat) (x y : B6) (h : bV i x.k = bV i y.k) (h' : bM xs ws l0 l1 x.out = bM xs ws l0 l1 y.out) : x = y := by
  obtain ⟨a, b⟩ := x
  obtain ⟨a', b'⟩ := y
  simp only [List.cons.injEq] at h
  have h1 := int_last h.2.2.2.2.2.1
  have h4 := arrI_inj h'
  try dsimp only at h1
  try dsimp only at h4
  rw [h1, h4]
noncomputable abbrev blH : List (Nat × (List AV → Mem → AK → R)) := [(44, pifBk), (46, pConflict), (47, pSort12), (48, pCompactI)]
theorem bM_cast {N : List AV → Mem → R} {v : List AV} {xs ws l0 l1 : List GG} {a b : List Int} {r : AV × Mem} (h : N v (bM xs ws l0 l1 b) = some r) (e : a = b) : N v (bM xs ws l0 l1 a) = some r := by subst e; exact h
theorem b9L_ok (xs ws l0 l1 : List GG) (i : Nat) : LoopOK (rco [6, 9] blH [(9, b9L xs ws l0 l1 i), (6, b6L xs ws l0 l1 i)] fx20) (loopB 9 (codeOf fx20)) (b9L xs ws l0 l1 i) := by
  refine loopP_ok (b9L_inj xs ws l0 l1 i) (fun x => x.l.length - x.j) ?_
  rintro ⟨out, k, l, j⟩ K r N ⟨hi, hw, ho, hb⟩ hN hf
  try dsimp only at ho
  try dsimp only at hb
  try dsimp only at hN
  try dsimp only at hf
  dsimp only
  rcases Nat.lt_or_ge j l.length with h | h
  · rw [drop_nth l j h, blk_cons] at hf
    obtain ⟨⟨xa, ⟨xb, xc⟩, xd⟩, hg⟩ : ∃ g, l[j] = g := ⟨_, rfl⟩
    obtain ⟨⟨ya, ⟨yb, yc⟩, yd⟩, hg'⟩ : ∃ g, ws[i] = g := ⟨_, rfl⟩
    have hwo : wOf ws i = (ya, (yb, yc), yd) := by rw [wOf, getD_nth' ws i _ hi, hg']
    rw [hwo, hg] at hf
    rw [hwo] at hN
    cases hc : conflict (xa, (xb, xc), xd) (ya, (yb, yc), yd) with
    | true =>
      rw [hc, cond_true] at hf
      conv => lhs; whnf
      repeat' ((first | split | ((conv => lhs; arg 3; whnf); split)) <;> first | (exfalso; rename_i hx; first | (simp (disch := omega) [leavesIds, V.leaves, Leaf.ids, mem?, nbeq, Ty.width, wrap_id, View.lenN, View.off, View.len_eq, sees_tail, sees_sub, rec_k, tn1, tn2, tn3, tn4, tn5, tn6, hg, hg', hc] at hx; done) | (simp (disch := omega) [leavesIds, V.leaves, Leaf.ids, mem?, nbeq, Ty.width, wrap_id, View.lenN, View.off, View.len_eq, sees_tail, sees_sub, rec_k, tn1, tn2, tn3, tn4, tn5, tn6, hg, hg', hc] at hx; omega) | (refine absurd (hx.symm.trans ?_) Bool.false_ne_true; (try simp only [Bool.and_eq_true, decide_eq_true_eq]); (try simp (disch := omega) [leavesIds, V.leaves, Leaf.ids, mem?, nbeq, Ty.width, wrap_id, View.lenN, View.off, View.len_eq, sees_tail, sees_sub, rec_k, tn1, tn2, tn3, tn4, tn5, tn6, hg, hg', hc]); (try omega); done) | omega) | (rename_i he; cases he; conv => lhs; whnf) | (conv => lhs; whnf))
      all_goals first | (rename_i hx; exact fits_no hx (by simp [View.sees]; omega) rfl) | skip
      rewrite [succ_w (i := j) (by omega)]
      refine bM_cast ((hN ⟨out ++ [xa], k, l, j + 1⟩ ⟨hi, hw, by simp only [List.length_append, List.length_cons, List.length_nil]; omega, hb⟩ (by simp only; omega)).trans (by rw [List.append_assoc]; exact hf)) ?_
      simp (disch := omega) [leavesIds, V.leaves, Leaf.ids, mem?, nbeq, Ty.width, wrap_id, View.lenN, View.off, View.len_eq, sees_tail, sees_sub, rec_k, tn1, tn2, tn3, tn4, tn5, tn6, hg]
    | false =>
      rw [hc, cond_false] at hf
      conv => lhs; whnf
      repeat' ((first | split | ((conv => lhs; arg 3; whnf); split)) <;> first | (exfalso; rename_i hx; first | (simp (disch := omega) [leavesIds, V.leaves, Leaf.ids, mem?, nbeq, Ty.width, wrap_id, View.lenN, View.off, View.len_eq, sees_tail, sees_sub, rec_k, tn1, tn2, tn3, tn4, tn5, tn6, hg, hg', hc] at hx; done) | (simp (disch := omega) [leavesIds, V.leaves, Leaf.ids, mem?, nbeq, Ty.width, wrap_id, View.lenN, View.off, View.len_eq, sees_tail, sees_sub, rec_k, tn1, tn2, tn3, tn4, tn5, tn6, hg, hg', hc] at hx; omega) | (refine absurd (hx.symm.trans ?_) Bool.false_ne_true; (try simp only [Bool.and_eq_true, decide_eq_true_eq]); (try simp (disch := omega) [leavesIds, V.leaves, Leaf.ids, mem?, nbeq, Ty.width, wrap_id, View.lenN, View.off, View.len_eq, sees_tail, sees_sub, rec_k, tn1, tn2, tn3, tn4, tn5, tn6, hg, hg', hc]); (try omega); done) | omega) | (rename_i he; cases he; conv => lhs; whnf) | (conv => lhs; whnf))
      rewrite [succ_w (i := j) (by omega)]
      exact (hN ⟨out, k, l, j + 1⟩ ⟨hi, hw, by simp only; omega, hb⟩ (by simp only; omega)).trans hf
  · rw [List.drop_eq_nil_of_le h, show blk (wOf ws i) [] = [] from rfl, List.append_nil] at hf
    conv => lhs; whnf
    (split <;> first | (exfalso; rename_i hx; first | (simp (disch := omega) [leavesIds, V.leaves, Leaf.ids, mem?, nbeq, Ty.width, wrap_id, View.lenN, View.off, View.len_eq, sees_tail, sees_sub, rec_k, tn1, tn2, tn3, tn4, tn5, tn6] at hx; done) | (simp (disch := omega) [leavesIds, V.leaves, Leaf.ids, mem?, nbeq, Ty.width, wrap_id, View.lenN, View.off, View.len_eq, sees_tail, sees_sub, rec_k, tn1, tn2, tn3, tn4, tn5, tn6] at hx; omega) | (refine absurd (hx.symm.trans ?_) Bool.false_ne_true; (try simp only [Bool.and_eq_true, decide_eq_true_eq]); (try simp (disch := omega) [leavesIds, V.leaves, Leaf.ids, mem?, nbeq, Ty.width, wrap_id, View.lenN, View.off, View.len_eq, sees_tail, sees_sub, rec_k, tn1, tn2, tn3, tn4, tn5, tn6]); (try omega); done) | omega) | (conv => lhs; whnf))
    exact hf
theorem b6L_ok (xs ws l0 l1 : List GG) (i : Nat) : LoopOK (rco [6, 9] blH [(9, b9L xs ws l0 l1 i), (6, b6L xs ws l0 l1 i)] fx20) (loopB 6 (codeOf fx20)) (b6L xs ws l0 l1 i) := by
  refine loopP_ok (b6L_inj xs ws l0 l1 i) (fun x => 2 - x.k) ?_
  rintro ⟨out, k⟩ K r N ⟨hi, hw, hk, ho, h0, h1⟩ hN hf
  try dsimp only at hk
  try dsimp only at ho
  try dsimp only at hN
  try dsimp only at hf
  dsimp only
  have hl0 := blk_len (wOf ws i) l0
  have hl1 := blk_len (wOf ws i) l1
  obtain rfl | rfl | rfl : k = 0 ∨ k = 1 ∨ k = 2 := by omega
  · rw [rest_0, ← List.append_assoc] at hf
    simp only [capB] at ho
    conv => lhs; whnf
    refine (loopP_eq (b9L_inj xs ws l0 l1 i) (x := ⟨out, 0, l0, 0⟩) ⟨hi, hw, by simp only; omega, h0⟩ _).trans ?_
    dsimp only
    rw [List.drop_zero]
    conv => lhs; whnf
    exact (hN ⟨out ++ blk (wOf ws i) l0, 1⟩ ⟨hi, hw, by simp only; omega, by simp only [capB, List.length_append]; omega, h0, h1⟩ (by simp only; omega)).trans hf
  · rw [rest_1, ← List.append_assoc] at hf
    simp only [capB] at ho
    conv => lhs; whnf
    refine (loopP_eq (b9L_inj xs ws l0 l1 i) (x := ⟨out, 1, l1, 0⟩) ⟨hi, hw, by simp only; omega, h1⟩ _).trans ?_
    dsimp only
    rw [List.drop_zero]
    conv => lhs; whnf
    exact (hN ⟨out ++ blk (wOf ws i) l1, 2⟩ ⟨hi, hw, by simp only; omega, by simp only [capB, List.length_append]; omega, h0, h1⟩ (by simp only; omega)).trans hf
  · conv => lhs; whnf
    simp only [rest, List.append_nil] at hf
    exact hf
/-- Who blocks a transaction. -/
def blkL (xs ws : List GG) (j : Nat) : List Int := blk (wOf ws j) xs ++ blk (wOf ws j) (ws.take j)
def blkS (xs ws : List GG) (tx : Int) : List Int := match idxP (fun g => g.1 == tx) ws 0 with
  | none => []
  | some j => compactF (sortI (blkL xs ws j))
def blkFew (xs ws : List GG) (tx : Int) : Bool := match idxP (fun g => g.1 == tx) ws 0 with
  | none => true
  | some j => decide ((blkL xs ws j).length ≤ 12)
def pBlockers := pureP [TB, I] fun x k => gd (decide (x.1.1.length ≤ 1048576) && decide (x.1.2.length ≤ 1048576) && blkFew x.1.1 x.1.2 x.2.1) (k (.one (.sl I (blkS x.1.1 x.1.2 x.2.1) none none)) [])
theorem qBk_fun (t : Int) : qBk t = fun g => g.1 == t := by funext g; rw [qBk_eq]
theorem insN_len (n : Nat) : ∀ (f : Nat) (xs : List Int) (i : Nat), (insN n f xs i).length = xs.length
  | 0, xs, i => rfl
  | f + 1, xs, i => by
    rw [insN]
    split
    · rw [insN_len n f, bub_len]
    · rfl
theorem sortI_len (xs : List Int) : (sortI xs).length = xs.length := insN_len _ _ _ _
theorem blockers_ok : COK Try.prog 20 pBlockers := by
  refine pure_cokD fun ⟨⟨xs, ws⟩, tx, u⟩ hb => ?_
  cases hi : idxP (fun g : GG => g.1 == tx) ws 0 with
  | none =>
    refine ⟨_, cok_plain (fno_ok (x := fx20) (own := [6, 9]) (H := blH) (L := [(9, b9L xs ws [] [] 0), (6, b6L xs ws [] [] 0)]) rfl rfl ⟨pifBk_ok, conflict_ok, sort12_ok, compactI_ok, trivial⟩ (by kernel_rfl) ⟨b9L_ok _ _ _ _ _, b6L_ok _ _ _ _ _, trivial⟩), fun k r h => ?_⟩
    obtain ⟨h1, h⟩ := gd_some.mp h
    simp only [Bool.and_eq_true, decide_eq_true_eq] at h1
    obtain ⟨⟨h1, h2⟩, h3⟩ := h1
    replace h2 : List.length ws ≤ 1048576 := h2
    have e1 : (decide (List.length ws ≤ 1048576) && true) = true := by rw [decide_eq_true h2]; rfl
    dsimp only at h
    rw [show blkS xs ws tx = [] by simp only [blkS, hi]] at h
    have hI : idxI (qBk tx) ws = -1 := by simp only [idxI]; rw [qBk_fun, hi]
    unfold plainB
    conv => lhs; whnf
    split
    rotate_left
    · rename_i hx
      exact tf (e1) hx
    conv => lhs; whnf
    rewrite [hI]
    conv => lhs; whnf
    exact h
  | some j =>
    have hj := (idxP_bnd _ ws 0 j hi).2
    refine ⟨_, cok_plain (fno_ok (x := fx20) (own := [6, 9]) (H := blH) (L := [(9, b9L xs ws xs (ws.take j) j), (6, b6L xs ws xs (ws.take j) j)]) rfl rfl ⟨pifBk_ok, conflict_ok, sort12_ok, compactI_ok, trivial⟩ (by kernel_rfl) ⟨b9L_ok _ _ _ _ _, b6L_ok _ _ _ _ _, trivial⟩), fun k r h => ?_⟩
    obtain ⟨h1, h⟩ := gd_some.mp h
    simp only [Bool.and_eq_true, decide_eq_true_eq] at h1
    obtain ⟨⟨h1, h2⟩, h3⟩ := h1
    replace h1 : List.length xs ≤ 1048576 := h1
    replace h2 : List.length ws ≤ 1048576 := h2
    have e1 : (decide (List.length ws ≤ 1048576) && true) = true := by rw [decide_eq_true h2]; rfl
    replace h3 : blkFew xs ws tx = true := h3
    simp only [blkFew, hi, decide_eq_true_eq] at h3
    dsimp only at h
    rw [show blkS xs ws tx = compactF (sortI (blkL xs ws j)) by simp only [blkS, hi]] at h
    have hI : idxI (qBk tx) ws = (j : Nat) := by simp only [idxI]; rw [qBk_fun, hi]
    have hsl := sortI_len (blkL xs ws j)
    unfold plainB
    conv => lhs; whnf
    split
    rotate_left
    · rename_i hx
      exact tf (e1) hx
    conv => lhs; whnf
    rewrite [hI]
    conv => lhs; whnf
    repeat' ((first | split | ((conv => lhs; arg 3; whnf); split)) <;> first | (exfalso; rename_i hx; first | (simp (disch := omega) [leavesIds, V.leaves, Leaf.ids, mem?, nbeq, Ty.width, wrap_id, View.lenN, View.off, View.len_eq, sees_tail, sees_sub, rec_k, tn1, tn2, tn3, tn4, tn5, tn6] at hx; done) | (simp (disch := omega) [leavesIds, V.leaves, Leaf.ids, mem?, nbeq, Ty.width, wrap_id, View.lenN, View.off, View.len_eq, sees_tail, sees_sub, rec_k, tn1, tn2, tn3, tn4, tn5, tn6] at hx; omega) | (refine absurd (hx.symm.trans ?_) Bool.false_ne_true; (try simp only [Bool.and_eq_true, decide_eq_true_eq]); (try simp (disch := omega) [leavesIds, V.leaves, Leaf.ids, mem?, nbeq, Ty.width, wrap_id, View.lenN, View.off, View.len_eq, sees_tail, sees_sub, rec_k, tn1, tn2, tn3, tn4, tn5, tn6]); (try omega); done) | omega) | (rename_i he; cases he; conv => lhs; whnf) | (conv => lhs; whnf))
    refine (loopP_eq (b6L_inj xs ws xs (ws.take j) j) (x := ⟨[], 0⟩) ⟨by simpa using hj, h2, by simp only; omega, by simp [capB], h1, by simp only [List.length_take]; omega⟩ _).trans ?_
    dsimp only
    rw [List.nil_append, show rest (wOf ws j) xs (ws.take j) 0 = blkL xs ws j from rfl]
    conv => lhs; whnf
    repeat' ((first | split | ((conv => lhs; arg 3; whnf); split)) <;> first | (exfalso; rename_i hx; first | (simp (disch := omega) [leavesIds, V.leaves, Leaf.ids, mem?, nbeq, Ty.width, wrap_id, View.lenN, View.off, View.len_eq, sees_tail, sees_sub, rec_k, tn1, tn2, tn3, tn4, tn5, tn6, hsl] at hx; done) | (simp (disch := omega) [leavesIds, V.leaves, Leaf.ids, mem?, nbeq, Ty.width, wrap_id, View.lenN, View.off, View.len_eq, sees_tail, sees_sub, rec_k, tn1, tn2, tn3, tn4, tn5, tn6, hsl] at hx; omega) | (refine absurd (hx.symm.trans ?_) Bool.false_ne_true; (try simp only [Bool.and_eq_true, decide_eq_true_eq]); (try simp (disch := omega) [leavesIds, V.leaves, Leaf.ids, mem?, nbeq, Ty.width, wrap_id, View.lenN, View.off, View.len_eq, sees_tail, sees_sub, rec_k, tn1, tn2, tn3, tn4, tn5, tn6, hsl]); (try omega); done) | omega) | (rename_i he; cases he; conv => lhs; whnf) | (conv => lhs; whnf))
    exact h
end Go.Ev.Tab

/- Cycles: the contract. Own work. -/
set_option maxRecDepth 100000
set_option maxHeartbeats 1000000
set_option linter.unusedVariables false
namespace Go.Ev.Tab
open Go Go.Ev.X Go.Proofs

/-! ### for whom one waits -/
def forF (xs ws : List GG) (tx : Int) : List Int := bif tabOk xs ws then blkS xs ws tx else []
def pFor := pureP [TB, I] fun x k => gd (blkFew x.1.1 x.1.2 x.2.1) (k (.one (.sl I (forF x.1.1 x.1.2 x.2.1) none none)) [])
theorem for_ok : COK Try.prog 18 pFor := by
  refine pure_cok (cok_plain (fn_ok (x := fx18) (H := [(19, pTab), (20, pBlockers)]) (L := []) rfl rfl ⟨tab_ok, blockers_ok, trivial⟩ (by kernel_rfl) trivial)) ?_
  rintro ⟨⟨xs, ws⟩, tx, u⟩ k r hb h
  obtain ⟨h1, h⟩ := gd_some.mp h
  replace h1 : blkFew xs ws tx = true := h1
  dsimp only at h
  unfold forF at h
  unfold plainB
  cases ht : tabOk xs ws with
  | false =>
    rw [ht, cond_false] at h
    conv => lhs; whnf
    repeat' ((first | split | ((conv => lhs; arg 3; whnf); split)) <;> first | (exfalso; rename_i hx; first | (simp (disch := omega) [leavesIds, V.leaves, Leaf.ids, mem?, nbeq, Ty.width, wrap_id, View.lenN, View.off, View.len_eq, sees_tail, sees_sub, rec_k, tn1, tn2, tn3, tn4, tn5, tn6, ht] at hx; done) | (simp (disch := omega) [leavesIds, V.leaves, Leaf.ids, mem?, nbeq, Ty.width, wrap_id, View.lenN, View.off, View.len_eq, sees_tail, sees_sub, rec_k, tn1, tn2, tn3, tn4, tn5, tn6, ht] at hx; omega) | (refine absurd (hx.symm.trans ?_) Bool.false_ne_true; (try simp only [Bool.and_eq_true, decide_eq_true_eq]); (try simp (disch := omega) [leavesIds, V.leaves, Leaf.ids, mem?, nbeq, Ty.width, wrap_id, View.lenN, View.off, View.len_eq, sees_tail, sees_sub, rec_k, tn1, tn2, tn3, tn4, tn5, tn6, ht]); (try omega); done) | omega) | (rename_i he; cases he; conv => lhs; whnf) | (conv => lhs; whnf))
    exact h
  | true =>
    have hlen := tabOk_len ht
    rw [ht, cond_true] at h
    conv => lhs; whnf
    repeat' ((first | split | ((conv => lhs; arg 3; whnf); split)) <;> first | (exfalso; rename_i hx; first | (simp (disch := omega) [leavesIds, V.leaves, Leaf.ids, mem?, nbeq, Ty.width, wrap_id, View.lenN, View.off, View.len_eq, sees_tail, sees_sub, rec_k, tn1, tn2, tn3, tn4, tn5, tn6, ht, h1] at hx; done) | (simp (disch := omega) [leavesIds, V.leaves, Leaf.ids, mem?, nbeq, Ty.width, wrap_id, View.lenN, View.off, View.len_eq, sees_tail, sees_sub, rec_k, tn1, tn2, tn3, tn4, tn5, tn6, ht, h1] at hx; omega) | (refine absurd (hx.symm.trans ?_) Bool.false_ne_true; (try simp only [Bool.and_eq_true, decide_eq_true_eq]); (try simp (disch := omega) [leavesIds, V.leaves, Leaf.ids, mem?, nbeq, Ty.width, wrap_id, View.lenN, View.off, View.len_eq, sees_tail, sees_sub, rec_k, tn1, tn2, tn3, tn4, tn5, tn6, ht, h1]); (try omega); done) | omega) | (rename_i he; cases he; conv => lhs; whnf) | (conv => lhs; whnf))
    exact h

/-! ### a number in a list -/
noncomputable def ixL (xs : List Int) (t : Int) := loopP (α := Nat) (fun i => [.one (.sl I xs none none), .one (.int .i64 t), .one (.int .i64 xs.length), .one (.int .i64 i)]) (fun _ => []) (fun _ => xs.length ≤ 1048576)
  (fun i K => match idxP (fun x => t == x) (xs.drop i) i with | some j => K.ret [.one (.int .i64 (j : Nat))] [] | none => K.exit 0 [] [])
theorem ixL_ok (xs : List Int) (t : Int) : LoopOK (rc [] [(2, ixL xs t)] fx49) (loopB 2 (codeOf fx49)) (ixL xs t) := by
  refine loopP_ok (fun x y h _ => by simp only [List.cons.injEq] at h; exact int_last h.2.2.2.1) (fun i => xs.length - i) ?_
  intro i K r N hb hN hf
  try dsimp only at hb
  try dsimp only at hN
  try dsimp only at hf
  rcases Nat.lt_or_ge i xs.length with h | h
  · obtain ⟨a, ha⟩ : ∃ a, xs[i] = a := ⟨_, rfl⟩
    rw [drop_nth xs i h, idxP, ha] at hf
    cases hc : t == a with
    | true =>
      rw [hc, cond_true] at hf
      conv => lhs; whnf
      repeat' ((first | split | ((conv => lhs; arg 3; whnf); split)) <;> first | (exfalso; rename_i hx; first | (simp (disch := omega) [leavesIds, V.leaves, Leaf.ids, mem?, nbeq, Ty.width, wrap_id, View.lenN, View.off, View.len_eq, sees_tail, sees_sub, rec_k, tn1, tn2, tn3, tn4, tn5, tn6, ha, hc] at hx; done) | (simp (disch := omega) [leavesIds, V.leaves, Leaf.ids, mem?, nbeq, Ty.width, wrap_id, View.lenN, View.off, View.len_eq, sees_tail, sees_sub, rec_k, tn1, tn2, tn3, tn4, tn5, tn6, ha, hc] at hx; omega) | (refine absurd (hx.symm.trans ?_) Bool.false_ne_true; (try simp only [Bool.and_eq_true, decide_eq_true_eq]); (try simp (disch := omega) [leavesIds, V.leaves, Leaf.ids, mem?, nbeq, Ty.width, wrap_id, View.lenN, View.off, View.len_eq, sees_tail, sees_sub, rec_k, tn1, tn2, tn3, tn4, tn5, tn6, ha, hc]); (try omega); done) | omega) | (rename_i he; cases he; conv => lhs; whnf) | (conv => lhs; whnf))
      exact hf
    | false =>
      rw [hc, cond_false] at hf
      conv => lhs; whnf
      repeat' ((first | split | ((conv => lhs; arg 3; whnf); split)) <;> first | (exfalso; rename_i hx; first | (simp (disch := omega) [leavesIds, V.leaves, Leaf.ids, mem?, nbeq, Ty.width, wrap_id, View.lenN, View.off, View.len_eq, sees_tail, sees_sub, rec_k, tn1, tn2, tn3, tn4, tn5, tn6, ha, hc] at hx; done) | (simp (disch := omega) [leavesIds, V.leaves, Leaf.ids, mem?, nbeq, Ty.width, wrap_id, View.lenN, View.off, View.len_eq, sees_tail, sees_sub, rec_k, tn1, tn2, tn3, tn4, tn5, tn6, ha, hc] at hx; omega) | (refine absurd (hx.symm.trans ?_) Bool.false_ne_true; (try simp only [Bool.and_eq_true, decide_eq_true_eq]); (try simp (disch := omega) [leavesIds, V.leaves, Leaf.ids, mem?, nbeq, Ty.width, wrap_id, View.lenN, View.off, View.len_eq, sees_tail, sees_sub, rec_k, tn1, tn2, tn3, tn4, tn5, tn6, ha, hc]); (try omega); done) | omega) | (rename_i he; cases he; conv => lhs; whnf) | (conv => lhs; whnf))
      rewrite [succ_w (by omega)]
      exact (hN (i + 1) hb (by omega)).trans hf
  · rw [List.drop_eq_nil_of_le h, idxP] at hf
    conv => lhs; whnf
    (split <;> first | (exfalso; rename_i hx; first | (simp (disch := omega) [leavesIds, V.leaves, Leaf.ids, mem?, nbeq, Ty.width, wrap_id, View.lenN, View.off, View.len_eq, sees_tail, sees_sub, rec_k, tn1, tn2, tn3, tn4, tn5, tn6] at hx; done) | (simp (disch := omega) [leavesIds, V.leaves, Leaf.ids, mem?, nbeq, Ty.width, wrap_id, View.lenN, View.off, View.len_eq, sees_tail, sees_sub, rec_k, tn1, tn2, tn3, tn4, tn5, tn6] at hx; omega) | (refine absurd (hx.symm.trans ?_) Bool.false_ne_true; (try simp only [Bool.and_eq_true, decide_eq_true_eq]); (try simp (disch := omega) [leavesIds, V.leaves, Leaf.ids, mem?, nbeq, Ty.width, wrap_id, View.lenN, View.off, View.len_eq, sees_tail, sees_sub, rec_k, tn1, tn2, tn3, tn4, tn5, tn6]); (try omega); done) | omega) | (conv => lhs; whnf))
    exact hf
def pIndexI : List AV → Mem → AK → R := fun args m k =>
  match args, m with
  | [.val (.one (.sl (.int .i64) xs none none)), .val (.one (.int .i64 t))], [] => gd (decide (xs.length ≤ 1048576)) (k (.one (.int .i64 (idxI (fun x => t == x) xs))) [])
  | _, _ => none
theorem indexI_ok : COK Try.prog 49 pIndexI := by
  refine ⟨CallOK.weakenD fun args m k r h => ?_⟩
  unfold pIndexI at h
  split at h
  · rename_i xs t
    obtain ⟨hb, h⟩ := gd_some.mp h
    simp only [decide_eq_true_eq] at hb
    refine ⟨_, (fn_ok (x := fx49) (H := []) (L := [(2, ixL xs t)]) rfl rfl trivial (by kernel_rfl) ⟨ixL_ok xs t, trivial⟩).ok, ?_⟩
    conv => lhs; whnf
    refine (loopP_eq (fun x y h _ => by simp only [List.cons.injEq] at h; exact int_last h.2.2.2.1) (x := 0) hb _).trans ?_
    dsimp only
    rw [List.drop_zero]
    simp only [idxI] at h
    cases hi : idxP (fun x => t == x) xs 0 with
    | none =>
      rw [hi] at h
      conv => lhs; whnf
      exact h
    | some j =>
      rw [hi] at h
      conv => lhs; whnf
      exact h
  · cases h
def pContainsI : List AV → Mem → AK → R := fun args m k =>
  match args, m with
  | [.val (.one (.sl (.int .i64) xs none none)), .val (.one (.int .i64 t))], [] => gd (decide (xs.length ≤ 1048576)) (k (.one (.bool (xs.any fun x => t == x))) [])
  | _, _ => none
theorem containsI_ok : COK Try.prog 21 pContainsI := by
  refine ⟨CallOK.weaken (fn_ok (x := fx21) (H := [(49, pIndexI)]) (L := []) rfl rfl ⟨indexI_ok, trivial⟩ (by kernel_rfl) trivial).ok fun args m k r h => ?_⟩
  unfold pContainsI at h
  split at h
  · rename_i xs t
    obtain ⟨hb, h⟩ := gd_some.mp h
    rw [any_idxP] at h
    have hI : idxI (fun x => t == x) xs = match idxP (fun x => t == x) xs 0 with | some j => (j : Nat) | none => -1 := rfl
    conv => lhs; whnf
    split
    rotate_left
    · rename_i hx
      exact tf (hb) hx
    conv => lhs; whnf
    rewrite [hI]
    cases hi : idxP (fun x => t == x) xs 0 with
    | none =>
      rw [hi] at h
      conv => lhs; whnf
      exact h
    | some j =>
      rw [hi] at h
      conv => lhs; whnf
      exact h
  · cases h
noncomputable def cCloneI := body (rco [retKey] [] [] fx22) (codeOf fx22)
theorem cCloneI_ok : COK Try.prog 22 cCloneI := fno_ok (x := fx22) (own := [retKey]) (H := []) (L := []) rfl rfl trivial (by kernel_rfl) trivial
theorem cloneI_ok : COK Try.prog 22 (pClone I) := by
  refine ⟨CallOK.nil1 cCloneI_ok.ok fun args m k r h => ?_⟩
  unfold pClone at h
  split at h
  · rename_i σ xs nl lim
    split at h
    · rename_i e
      subst e
      obtain ⟨hb, h⟩ := gd_some.mp h
      simp only [decide_eq_true_eq] at hb
      refine ⟨_, xs, nl, lim, rfl, ?_, ?_⟩
      · cases xs with
        | nil =>
          conv => lhs; whnf
          exact h
        | cons x xs =>
          conv => lhs; whnf
          split
          · conv => lhs; whnf
            exact h
          · rename_i hx
            exact fits_no hx (Nat.le_trans hb (by decide)) rfl
      · rintro rfl
        conv => lhs; whnf
        exact h
    · cases h
  · cases h
end Go.Ev.Tab

/- Cycles: the contract. Own work. -/
set_option maxRecDepth 100000
set_option maxHeartbeats 1000000
set_option linter.unusedVariables false
set_option linter.unusedSimpArgs false
namespace Go.Ev.Tab
open Go Go.Ev.X Go.Proofs

/-! ### the search -/
def stepIn (path : List Int) : List Int → List Int → List (List Int) → List Int × List (List Int)
  | [], ks, q => (ks, q)
  | n :: r, ks, q => bif ks.any (fun k => n == k) then stepIn path r ks q else stepIn path r (ks ++ [n]) (q ++ [path ++ [n]])
def lastI (p : List Int) : Int := p.getD (p.length - 1) 0
def bfs (xs ws : List GG) (tx : Int) : Nat → List Int → List (List Int) → Option (List Int)
  | 0, _, _ => none
  | n + 1, ks, q => match q with
    | [] => none
    | p :: q => bif (blkS xs ws (lastI p)).any (fun x => tx == x) then some p else bfs xs ws tx n (stepIn p (blkS xs ws (lastI p)) ks q).1 (stepIn p (blkS xs ws (lastI p)) ks q).2
/-- All who are in the table. -/
def allTx (xs ws : List GG) : List Int := xs.map (·.1) ++ ws.map (·.1)
def unseen (U ks : List Int) : Nat := (U.filter fun u => !ks.any (fun k => u == k)).length
theorem filter_lt {α : Type} {p q : α → Bool} {a : α} : ∀ {l : List α}, (∀ x ∈ l, q x = true → p x = true) → a ∈ l → p a = true → q a = false → (l.filter q).length < (l.filter p).length
  | [], _, h, _, _ => by simp at h
  | x :: l, h, ha, hp, hq => by
    have hsub : (l.filter q).length ≤ (l.filter p).length := by
      have : ∀ l : List α, (∀ x ∈ l, q x = true → p x = true) → (l.filter q).length ≤ (l.filter p).length := by
        intro l hl
        induction l with
        | nil => simp
        | cons y l ih =>
          have ih := ih fun x hx => hl x (by simp [hx])
          have hy := hl y (by simp)
          cases h1 : q y <;> cases h2 : p y <;> simp_all <;> omega
      exact this l fun x hx => h x (by simp [hx])
    rcases List.mem_cons.mp ha with rfl | ha
    · simp only [List.filter_cons, hp, hq, if_true, List.length_cons]
      simp
      omega
    · have ih := filter_lt (fun x hx => h x (by simp [hx])) ha hp hq
      have hx := h x (by simp)
      cases h1 : q x <;> cases h2 : p x <;> simp_all <;> omega
theorem unseen_add {U ks : List Int} {n : Int} (hn : n ∈ U) (hk : ks.any (fun k => n == k) = false) : unseen U (ks ++ [n]) < unseen U ks := by
  unfold unseen
  refine filter_lt (a := n) (fun x _ hx => ?_) hn (by rw [hk]; rfl) ?_
  · simp only [List.any_append, Bool.not_eq_true', Bool.or_eq_false_iff] at hx
    rw [hx.1]; rfl
  · simp
theorem blk_mem (w : GG) (l : List GG) : ∀ x ∈ blk w l, x ∈ l.map (·.1) := by
  intro x hx
  unfold blk at hx
  obtain ⟨g, hg, rfl⟩ := List.mem_map.mp hx
  exact List.mem_map.mpr ⟨g, (List.mem_filter.mp hg).1, rfl⟩
theorem cpT_mem : ∀ (l : List Int) (x y : Int), y ∈ cpT x l → y ∈ l
  | [], x, y, h => by simp [cpT] at h
  | z :: l, x, y, h => by
    rw [cpT] at h
    cases hz : z == x with
    | true => rw [hz] at h; exact List.mem_cons_of_mem _ (cpT_mem l x y h)
    | false =>
      rw [hz] at h
      rcases List.mem_cons.mp h with rfl | h
      · simp
      · exact List.mem_cons_of_mem _ (cpT_mem l z y h)
theorem compactF_mem (l : List Int) (y : Int) (h : y ∈ compactF l) : y ∈ l := by
  cases l with
  | nil => simp [compactF] at h
  | cons x l =>
    rw [compactF_cpT] at h
    rcases List.mem_cons.mp h with rfl | h
    · simp
    · exact List.mem_cons_of_mem _ (cpT_mem l x y h)
theorem swp_perm (xs : List Int) (j : Nat) (h : j + 1 < xs.length) : (swp xs j).Perm xs := by
  unfold swp
  rw [getD_nth' xs j _ (by omega), getD_nth' xs (j + 1) _ h]
  exact List.set_set_perm h (by omega)
theorem bub_perm : ∀ (j : Nat) (xs : List Int), j < xs.length → (bub j xs).Perm xs
  | 0, xs, _ => List.Perm.refl _
  | j + 1, xs, h => by
    rw [bub]
    cases decide (xs.getD (j + 1) 0 < xs.getD j 0) with
    | true => rw [cond_true]; exact (bub_perm j _ (by simp; omega)).trans (swp_perm xs j h)
    | false => exact List.Perm.refl _
theorem insN_perm (n : Nat) : ∀ (f : Nat) (xs : List Int) (i : Nat), n = xs.length → (insN n f xs i).Perm xs
  | 0, xs, i, _ => List.Perm.refl _
  | f + 1, xs, i, h => by
    rw [insN]
    split
    · exact (insN_perm n f _ _ (by rw [bub_len]; exact h)).trans (bub_perm i xs (by omega))
    · exact List.Perm.refl _
theorem sortI_perm (xs : List Int) : (sortI xs).Perm xs := insN_perm _ _ _ _ rfl
theorem blkS_mem (xs ws : List GG) (t x : Int) (h : x ∈ blkS xs ws t) : x ∈ allTx xs ws := by
  unfold blkS at h
  split at h
  · simp at h
  · have h := (sortI_perm _).mem_iff.mp (compactF_mem _ _ h)
    unfold allTx
    unfold blkL at h
    rcases List.mem_append.mp h with h | h
    · exact List.mem_append_left _ (blk_mem _ _ x h)
    · refine List.mem_append_right _ ?_
      obtain ⟨g, hg, rfl⟩ := List.mem_map.mp (blk_mem _ _ x h)
      exact List.mem_map.mpr ⟨g, List.mem_of_mem_take hg, rfl⟩
/-- How far the search may still go. -/
def far (U ks : List Int) (q : List (List Int)) : Nat := 2 * unseen U ks + q.length
structure Inv (U ks : List Int) (q : List (List Int)) : Prop where
  hq : q.length ≤ ks.length
  hk : ks.length + unseen U ks ≤ U.length + 1
  hp : ∀ p ∈ q, p ≠ [] ∧ p.length ≤ ks.length
theorem stepIn_inv {U : List Int} {path : List Int} (hp : path ≠ []) : ∀ {next ks : List Int} {q : List (List Int)}, (∀ n ∈ next, n ∈ U) → Inv U ks q → path.length ≤ ks.length →
    Inv U (stepIn path next ks q).1 (stepIn path next ks q).2 ∧ far U (stepIn path next ks q).1 (stepIn path next ks q).2 ≤ far U ks q ∧ ks.length ≤ (stepIn path next ks q).1.length
  | [], ks, q, hn, hI, hl => ⟨hI, Nat.le_refl _, Nat.le_refl _⟩
  | n :: r, ks, q, hn, hI, hl => by
    rw [stepIn]
    cases hk : ks.any (fun k => n == k) with
    | true => exact stepIn_inv hp (fun m hm => hn m (by simp [hm])) hI hl
    | false =>
      have hu := unseen_add (hn n (by simp)) hk
      have hI' : Inv U (ks ++ [n]) (q ++ [path ++ [n]]) := by
        refine ⟨by have := hI.hq; simp; omega, by have := hI.hk; simp; omega, fun p hp' => ?_⟩
        rcases List.mem_append.mp hp' with h | h
        · obtain ⟨a, b⟩ := hI.hp p h
          exact ⟨a, by simp; omega⟩
        · simp only [List.mem_singleton] at h
          subst h
          exact ⟨by simp, by simp; omega⟩
      obtain ⟨a, b, c⟩ := stepIn_inv (next := r) hp (fun m hm => hn m (by simp [hm])) hI' (by simp; omega)
      rw [cond_false]
      refine ⟨a, Nat.le_trans b ?_, by simp only [List.length_append, List.length_cons, List.length_nil] at c; omega⟩
      unfold far
      simp only [List.length_append, List.length_cons, List.length_nil]
      omega
theorem bfs_eq (xs ws : List GG) (tx : Int) : ∀ (n m : Nat) (ks : List Int) (q : List (List Int)), Inv (allTx xs ws) ks q → far (allTx xs ws) ks q < n → far (allTx xs ws) ks q < m → bfs xs ws tx n ks q = bfs xs ws tx m ks q
  | 0, _, _, _, _, h, _ => absurd h (by omega)
  | _ + 1, 0, _, _, _, _, h => absurd h (by omega)
  | n + 1, m + 1, ks, q, hI, h1, h2 => by
    cases q with
    | nil => rfl
    | cons p q =>
      rw [bfs, bfs]
      cases (blkS xs ws (lastI p)).any (fun x => tx == x) with
      | true => rfl
      | false =>
        rw [cond_false, cond_false]
        obtain ⟨hp1, hp2⟩ := hI.hp p (by simp)
        have hI' : Inv (allTx xs ws) ks q := ⟨by have := hI.hq; simp at this; omega, hI.hk, fun p' h => hI.hp p' (by simp [h])⟩
        obtain ⟨a, b, _⟩ := stepIn_inv (next := blkS xs ws (lastI p)) hp1 (fun n hn => blkS_mem xs ws _ n hn) hI' hp2
        have hfar : far (allTx xs ws) ks q + 1 = far (allTx xs ws) ks (p :: q) := by unfold far; simp; omega
        exact bfs_eq xs ws tx n m _ _ a (by omega) (by omega)
def bfsF (xs ws : List GG) (tx : Int) (ks : List Int) (q : List (List Int)) : Option (List Int) := bfs xs ws tx (far (allTx xs ws) ks q + 1) ks q
theorem bfsF_cons (xs ws : List GG) (tx : Int) (ks : List Int) (p : List Int) (q : List (List Int)) (hI : Inv (allTx xs ws) ks (p :: q)) : bfsF xs ws tx ks (p :: q) =
    bif (blkS xs ws (lastI p)).any (fun x => tx == x) then some p else bfsF xs ws tx (stepIn p (blkS xs ws (lastI p)) ks q).1 (stepIn p (blkS xs ws (lastI p)) ks q).2 := by
  unfold bfsF
  rw [bfs]
  cases (blkS xs ws (lastI p)).any (fun x => tx == x) with
  | true => rfl
  | false =>
    rw [cond_false, cond_false]
    obtain ⟨hp1, hp2⟩ := hI.hp p (by simp)
    have hI' : Inv (allTx xs ws) ks q := ⟨by have := hI.hq; simp at this; omega, hI.hk, fun p' h => hI.hp p' (by simp [h])⟩
    obtain ⟨a, b, _⟩ := stepIn_inv (next := blkS xs ws (lastI p)) hp1 (fun n hn => blkS_mem xs ws _ n hn) hI' hp2
    have hfar : far (allTx xs ws) ks q + 1 = far (allTx xs ws) ks (p :: q) := by unfold far; simp; omega
    exact bfs_eq xs ws tx _ _ _ _ a (by omega) (by omega)
theorem bfsF_nil (xs ws : List GG) (tx : Int) (ks : List Int) : bfsF xs ws tx ks [] = none := rfl
theorem inv0 (xs ws : List GG) (tx : Int) : Inv (allTx xs ws) [tx] [[tx]] := by
  refine ⟨by simp, ?_, fun p hp => ?_⟩
  · have := List.length_filter_le (fun u => !([tx] : List Int).any (fun k => u == k)) (allTx xs ws)
    unfold unseen
    simp only [List.length_cons, List.length_nil]
    omega
  · simp only [List.mem_singleton] at hp
    subst hp
    simp
def cycF (xs ws : List GG) (tx : Int) : List Int := bif tabOk xs ws then (match bfsF xs ws tx [tx] [[tx]] with | some p => p | none => []) else []

/-! ### the contract -/
def ents (ks : List Int) : List (Int × Bool) := ks.map fun k => (k, true)
theorem assoc_t {n : Int} : ∀ {ks : List Int}, ks.any (fun k => n == k) = true → assoc I .bool n (ents ks) = some true
  | [], h => by simp at h
  | k :: ks, h => by
    show (bif (n == k) then some true else assoc I .bool n (ents ks)) = some true
    cases hk : n == k with
    | true => rfl
    | false =>
      simp only [List.any_cons, hk, Bool.false_or] at h
      exact assoc_t h
theorem assoc_f {n : Int} : ∀ {ks : List Int}, ks.any (fun k => n == k) = false → assoc I .bool n (ents ks) = none
  | [], h => rfl
  | k :: ks, h => by
    show (bif (n == k) then some true else assoc I .bool n (ents ks)) = none
    simp only [List.any_cons, Bool.or_eq_false_iff] at h
    rw [h.1]
    exact assoc_f h.2
theorem assocSet_f {n : Int} : ∀ {ks : List Int}, ks.any (fun k => n == k) = false → assocSet I .bool n true (ents ks) = ents (ks ++ [n])
  | [], h => rfl
  | k :: ks, h => by
    show (bif (n == k) then (k, true) :: ents ks else (k, true) :: assocSet I .bool n true (ents ks)) = (k, true) :: ents (ks ++ [n])
    simp only [List.any_cons, Bool.or_eq_false_iff] at h
    rw [h.1, cond_false, assocSet_f h.2]
abbrev SLI : Ty := .sl I
abbrev cyM (xs ws : List GG) (ks : List Int) (q : List (List Int)) : Mem := [(100000000, .box false [.sl G xs none none, .sl G ws none none]), (100000001, .map false I .bool (ents ks)), (100000002, .arr SLI q false)]
abbrev cyV (tx : Int) : List AV := [.one (.int .i64 tx), sP 100000000, .one (.map 100000001), refA 100000002]
structure CI where
  ks : List Int
  q : List (List Int)
  path : List Int
  next : List Int
  j : Nat
theorem ents_inj {a b : List Int} (h : ents a = ents b) : a = b := by
  have := congrArg (List.map (·.1)) h
  simpa [ents, List.map_map, Function.comp_def] using this
theorem cyM_inj {xs ws : List GG} {a b : List Int} {p q : List (List Int)} (h : cyM xs ws a p = cyM xs ws b q) : a = b ∧ p = q := by
  simp only [List.cons.injEq, Prod.mk.injEq, Obj.map.injEq, Obj.arr.injEq] at h
  exact ⟨ents_inj (by simpa using h.2.1), by simpa using h.2.2.1⟩
noncomputable def ciL (xs ws : List GG) (tx : Int) := loopP (α := CI) (fun x => cyV tx ++ [.one (.sl I x.path none none), .one (.sl I x.next none none), .one (.int .i64 x.next.length), .one (.int .i64 x.j)]) (fun x => cyM xs ws x.ks x.q)
  (fun x => (allTx xs ws).length ≤ 4096 ∧ Inv (allTx xs ws) x.ks x.q ∧ x.path ≠ [] ∧ x.path.length ≤ x.ks.length ∧ x.next.length ≤ 1048576 ∧ ∀ n ∈ x.next, n ∈ allTx xs ws)
  (fun x K => K.exit 2 (cyV tx) (cyM xs ws (stepIn x.path (x.next.drop x.j) x.ks x.q).1 (stepIn x.path (x.next.drop x.j) x.ks x.q).2))
theorem ciL_inj (xs ws : List GG) (tx : Int) (x y : CI) (h : cyV tx ++ [.one (.sl I x.path none none), .one (.sl I x.next none none), .one (.int .i64 x.next.length), .one (.int .i64 x.j)] = cyV tx ++ [.one (.sl I y.path none none), .one (.sl I y.next none none), .one (.int .i64 y.next.length), .one (.int .i64 y.j)])
    (h' : cyM xs ws x.ks x.q = cyM xs ws y.ks y.q) : x = y := by
  obtain ⟨a, b, c, d, e⟩ := x
  obtain ⟨a', b', c', d', e'⟩ := y
  have h := List.append_cancel_left h
  simp only [List.cons.injEq] at h
  have h1 := av_sl_inj h.1
  have h2 := av_sl_inj h.2.1
  have h3 := int_last h.2.2.2.1
  obtain ⟨h4, h5⟩ := cyM_inj h'
  try dsimp only at h1
  try dsimp only at h2
  try dsimp only at h3
  try dsimp only at h4
  try dsimp only at h5
  rw [h1, h2, h3, h4, h5]
structure CO where
  ks : List Int
  q : List (List Int)
noncomputable def coL (xs ws : List GG) (tx : Int) := loopP (α := CO) (fun x => cyV tx) (fun x => cyM xs ws x.ks x.q) (fun x => (allTx xs ws).length ≤ 4096 ∧ Inv (allTx xs ws) x.ks x.q ∧ (xs.length ≤ 1048576 ∧ ws.length ≤ 1048576) ∧ ∀ t, blkFew xs ws t = true)
  (fun x K => match bfsF xs ws tx x.ks x.q with | some p => K.ret [.one (.sl I p none none)] [] | none => K.exit 0 [] [])
theorem coL_inj (xs ws : List GG) (tx : Int) (x y : CO) (h : cyV tx = cyV tx) (h' : cyM xs ws x.ks x.q = cyM xs ws y.ks y.q) : x = y := by
  obtain ⟨a, b⟩ := x
  obtain ⟨a', b'⟩ := y
  obtain ⟨h4, h5⟩ := cyM_inj h'
  try dsimp only at h4
  try dsimp only at h5
  rw [h4, h5]
noncomputable abbrev cyH : List (Nat × (List AV → Mem → AK → R)) := [(19, pTab), (20, pBlockers), (21, pContainsI), (22, pClone I)]
theorem cyM_cast {N : List AV → Mem → R} {v : List AV} {xs ws : List GG} {ks : List Int} {es : List (Int × Bool)} {a b : List (List Int)} {r : AV × Mem} (h : N v (cyM xs ws ks b) = some r) (e : a = b) (he : es = ents ks) :
    N v [(100000000, .box false [.sl G xs none none, .sl G ws none none]), (100000001, .map false I .bool es), (100000002, .arr SLI a false)] = some r := by subst e; subst he; exact h
theorem ciL_ok (xs ws : List GG) (tx : Int) : LoopOK (rco [5, 12] cyH [(12, ciL xs ws tx), (5, coL xs ws tx)] fx6) (loopB 12 (codeOf fx6)) (ciL xs ws tx) := by
  refine loopP_ok (ciL_inj xs ws tx) (fun x => x.next.length - x.j) ?_
  rintro ⟨ks, q, path, next, j⟩ K r N ⟨hU, hI, hp, hpl, hb, hn⟩ hN hf
  try dsimp only at hI
  try dsimp only at hp
  try dsimp only at hpl
  try dsimp only at hb
  try dsimp only at hn
  try dsimp only at hN
  try dsimp only at hf
  dsimp only
  rcases Nat.lt_or_ge j next.length with h | h
  · obtain ⟨a, ha⟩ : ∃ a, next[j] = a := ⟨_, rfl⟩
    have haU : a ∈ allTx xs ws := hn a (ha ▸ List.getElem_mem h)
    rw [drop_nth next j h, stepIn, ha] at hf
    have hkl := hI.hk
    cases hc : ks.any (fun k => a == k) with
    | true =>
      have hA := assoc_t hc
      rw [hc, cond_true] at hf
      conv => lhs; whnf
      repeat' ((first | split | ((conv => lhs; arg 3; whnf); split)) <;> first | (exfalso; rename_i hx; first | (simp (disch := omega) [leavesIds, V.leaves, Leaf.ids, mem?, nbeq, Ty.width, wrap_id, View.lenN, View.off, View.len_eq, sees_tail, sees_sub, rec_k, tn1, tn2, tn3, tn4, tn5, tn6, ha, hA] at hx; done) | (simp (disch := omega) [leavesIds, V.leaves, Leaf.ids, mem?, nbeq, Ty.width, wrap_id, View.lenN, View.off, View.len_eq, sees_tail, sees_sub, rec_k, tn1, tn2, tn3, tn4, tn5, tn6, ha, hA] at hx; omega) | (refine absurd (hx.symm.trans ?_) Bool.false_ne_true; (try simp only [Bool.and_eq_true, decide_eq_true_eq]); (try simp (disch := omega) [leavesIds, V.leaves, Leaf.ids, mem?, nbeq, Ty.width, wrap_id, View.lenN, View.off, View.len_eq, sees_tail, sees_sub, rec_k, tn1, tn2, tn3, tn4, tn5, tn6, ha, hA]); (try omega); done) | omega) | (rename_i he; cases he; conv => lhs; whnf) | (conv => lhs; whnf))
      rewrite [succ_w (i := j) (by omega)]
      exact (hN ⟨ks, q, path, next, j + 1⟩ ⟨hU, hI, hp, hpl, hb, hn⟩ (by simp only; omega)).trans hf
    | false =>
      have hA := assoc_f hc
      have hS := assocSet_f hc
      rw [hc, cond_false] at hf
      have hkq := hI.hq
      have hu := unseen_add haU hc
      have hI' : Inv (allTx xs ws) (ks ++ [a]) (q ++ [path ++ [a]]) := by
        have := stepIn_inv (U := allTx xs ws) hp (next := [a]) (ks := ks) (q := q) (by simpa using haU) hI hpl
        simp only [stepIn, hc, cond_false] at this
        exact this.1
      conv => lhs; whnf
      repeat' ((first | split | ((conv => lhs; arg 3; whnf); split)) <;> first | (exfalso; rename_i hx; first | (simp (disch := omega) [leavesIds, V.leaves, Leaf.ids, mem?, nbeq, Ty.width, wrap_id, View.lenN, View.off, View.len_eq, sees_tail, sees_sub, rec_k, tn1, tn2, tn3, tn4, tn5, tn6, ha, hA] at hx; done) | (simp (disch := omega) [leavesIds, V.leaves, Leaf.ids, mem?, nbeq, Ty.width, wrap_id, View.lenN, View.off, View.len_eq, sees_tail, sees_sub, rec_k, tn1, tn2, tn3, tn4, tn5, tn6, ha, hA] at hx; omega) | (refine absurd (hx.symm.trans ?_) Bool.false_ne_true; (try simp only [Bool.and_eq_true, decide_eq_true_eq]); (try simp (disch := omega) [leavesIds, V.leaves, Leaf.ids, mem?, nbeq, Ty.width, wrap_id, View.lenN, View.off, View.len_eq, sees_tail, sees_sub, rec_k, tn1, tn2, tn3, tn4, tn5, tn6, ha, hA]); (try omega); done) | omega) | (rename_i he; cases he; conv => lhs; whnf) | (conv => lhs; whnf))
      all_goals first | (rename_i hx; exact fits_no hx (by simp [View.sees, rec_k]; omega) rfl) | skip
      rewrite [succ_w (i := j) (by omega)]
      refine cyM_cast ((hN ⟨ks ++ [a], q ++ [path ++ [a]], path, next, j + 1⟩ ⟨hU, hI', hp, by simp only [List.length_append]; omega, hb, hn⟩ (by simp only; omega)).trans hf) ?_ ?_
      · simp (disch := omega) [leavesIds, V.leaves, Leaf.ids, mem?, nbeq, Ty.width, wrap_id, View.lenN, View.off, View.len_eq, sees_tail, sees_sub, rec_k, tn1, tn2, tn3, tn4, tn5, tn6, ha]
      · have hz : next.getD ((j : Int).toNat) (Ty.dflt I) = a := by rw [getD_nth next j _ h]; exact ha
        exact (congrArg (fun z => assocSet I .bool z true (ents ks)) hz).trans (assocSet_f hc)
  · rw [List.drop_eq_nil_of_le h, stepIn] at hf
    conv => lhs; whnf
    (split <;> first | (exfalso; rename_i hx; first | (simp (disch := omega) [leavesIds, V.leaves, Leaf.ids, mem?, nbeq, Ty.width, wrap_id, View.lenN, View.off, View.len_eq, sees_tail, sees_sub, rec_k, tn1, tn2, tn3, tn4, tn5, tn6] at hx; done) | (simp (disch := omega) [leavesIds, V.leaves, Leaf.ids, mem?, nbeq, Ty.width, wrap_id, View.lenN, View.off, View.len_eq, sees_tail, sees_sub, rec_k, tn1, tn2, tn3, tn4, tn5, tn6] at hx; omega) | (refine absurd (hx.symm.trans ?_) Bool.false_ne_true; (try simp only [Bool.and_eq_true, decide_eq_true_eq]); (try simp (disch := omega) [leavesIds, V.leaves, Leaf.ids, mem?, nbeq, Ty.width, wrap_id, View.lenN, View.off, View.len_eq, sees_tail, sees_sub, rec_k, tn1, tn2, tn3, tn4, tn5, tn6]); (try omega); done) | omega) | (conv => lhs; whnf))
    exact hf
theorem cpT_le : ∀ (l : List Int) (x : Int), (cpT x l).length ≤ l.length
  | [], x => by simp [cpT]
  | z :: l, x => by
    rw [cpT]
    have := cpT_le l
    cases z == x with
    | true => exact Nat.le_succ_of_le (this _)
    | false => exact Nat.succ_le_succ (this _)
theorem compactF_le (l : List Int) : (compactF l).length ≤ l.length := by
  cases l with
  | nil => simp [compactF]
  | cons x l => rw [compactF_cpT]; exact Nat.succ_le_succ (cpT_le l x)
theorem blkS_len (xs ws : List GG) (t : Int) (h : blkFew xs ws t = true) : (blkS xs ws t).length ≤ 12 := by
  unfold blkS
  unfold blkFew at h
  split
  · simp
  · rename_i j hj
    rw [hj] at h
    simp only [decide_eq_true_eq] at h
    exact Nat.le_trans (compactF_le _) (by rw [sortI_len]; exact h)
theorem lastI_eq {p : List Int} (h : p ≠ []) : ∃ n, p.length = n + 1 ∧ ∃ h : n < p.length, lastI p = p[n] := by
  cases p with
  | nil => exact absurd rfl h
  | cons a l => exact ⟨l.length, rfl, by simp, getD_nth' _ _ _ (by simp)⟩
theorem coL_ok (xs ws : List GG) (tx : Int) : LoopOK (rco [5, 12] cyH [(12, ciL xs ws tx), (5, coL xs ws tx)] fx6) (loopB 5 (codeOf fx6)) (coL xs ws tx) := by
  refine loopP_ok (fun x y h h' => coL_inj xs ws tx x y rfl h') (fun x => far (allTx xs ws) x.ks x.q) ?_
  rintro ⟨ks, q⟩ K r N ⟨hU, hI, ⟨hx1, hx2⟩, hfew⟩ hN hf
  try dsimp only at hI
  try dsimp only at hN
  try dsimp only at hf
  dsimp only
  cases q with
  | nil =>
    rw [bfsF_nil] at hf
    conv => lhs; whnf
    exact hf
  | cons p q =>
    obtain ⟨hp1, hp2⟩ := hI.hp p (by simp)
    obtain ⟨n, hn, hnl, hl⟩ := lastI_eq hp1
    have hkl := hI.hk
    have hw : IntKind.i64.wrap ((p.length : Int) - 1) = (n : Nat) := by rw [hn]; exact pred_w (by omega)
    have hI' : Inv (allTx xs ws) ks q := ⟨by have := hI.hq; simp at this; omega, hI.hk, fun p' h => hI.hp p' (by simp [h])⟩
    obtain ⟨a, b, _⟩ := stepIn_inv (next := blkS xs ws (lastI p)) hp1 (fun n hn => blkS_mem xs ws _ n hn) hI' hp2
    have hfar : far (allTx xs ws) ks q + 1 = far (allTx xs ws) ks (p :: q) := by unfold far; simp; omega
    have hfw := hfew (lastI p)
    have hbl := blkS_len xs ws (lastI p) hfw
    have hmem := fun n (hn : n ∈ blkS xs ws (lastI p)) => blkS_mem xs ws _ n hn
    rw [bfsF_cons xs ws tx ks p q hI] at hf
    obtain ⟨l, hl'⟩ : ∃ l, p[n] = l := ⟨_, rfl⟩
    rw [hl'] at hl
    rw [hl] at hf a b hfw hbl hmem
    have e1 : (Nat.beq I.width 1 && decide (0 ≤ (n : Int)) && decide ((n : Int) < List.length p)) = true := ix_t rfl hnl
    have e2 : (decide (xs.length ≤ 1048576) && decide (ws.length ≤ 1048576) && blkFew xs ws l) = true := by rw [hfw]; simp [hx1, hx2]
    have e3 : decide ((blkS xs ws l).length ≤ 1048576) = true := decide_eq_true (by omega)
    cases hc : (blkS xs ws l).any (fun x => tx == x) with
    | true =>
      rw [hc, cond_true] at hf
      conv => lhs; whnf
      (split <;> first | (exfalso; rename_i hx; first | (simp (disch := omega) [leavesIds, V.leaves, Leaf.ids, mem?, nbeq, Ty.width, wrap_id, View.lenN, View.off, View.len_eq, sees_tail, sees_sub, rec_k, tn1, tn2, tn3, tn4, tn5, tn6] at hx; done) | (simp (disch := omega) [leavesIds, V.leaves, Leaf.ids, mem?, nbeq, Ty.width, wrap_id, View.lenN, View.off, View.len_eq, sees_tail, sees_sub, rec_k, tn1, tn2, tn3, tn4, tn5, tn6] at hx; omega) | (refine absurd (hx.symm.trans ?_) Bool.false_ne_true; (try simp only [Bool.and_eq_true, decide_eq_true_eq]); (try simp (disch := omega) [leavesIds, V.leaves, Leaf.ids, mem?, nbeq, Ty.width, wrap_id, View.lenN, View.off, View.len_eq, sees_tail, sees_sub, rec_k, tn1, tn2, tn3, tn4, tn5, tn6]); (try omega); done) | omega) | (conv => lhs; whnf))
      (split <;> first | (exfalso; rename_i hx; first | (simp (disch := omega) [leavesIds, V.leaves, Leaf.ids, mem?, nbeq, Ty.width, wrap_id, View.lenN, View.off, View.len_eq, sees_tail, sees_sub, rec_k, tn1, tn2, tn3, tn4, tn5, tn6] at hx; done) | (simp (disch := omega) [leavesIds, V.leaves, Leaf.ids, mem?, nbeq, Ty.width, wrap_id, View.lenN, View.off, View.len_eq, sees_tail, sees_sub, rec_k, tn1, tn2, tn3, tn4, tn5, tn6] at hx; omega) | (refine absurd (hx.symm.trans ?_) Bool.false_ne_true; (try simp only [Bool.and_eq_true, decide_eq_true_eq]); (try simp (disch := omega) [leavesIds, V.leaves, Leaf.ids, mem?, nbeq, Ty.width, wrap_id, View.lenN, View.off, View.len_eq, sees_tail, sees_sub, rec_k, tn1, tn2, tn3, tn4, tn5, tn6]); (try omega); done) | omega) | (conv => lhs; whnf))
      (split <;> first | (exfalso; rename_i hx; first | (simp (disch := omega) [leavesIds, V.leaves, Leaf.ids, mem?, nbeq, Ty.width, wrap_id, View.lenN, View.off, View.len_eq, sees_tail, sees_sub, rec_k, tn1, tn2, tn3, tn4, tn5, tn6] at hx; done) | (simp (disch := omega) [leavesIds, V.leaves, Leaf.ids, mem?, nbeq, Ty.width, wrap_id, View.lenN, View.off, View.len_eq, sees_tail, sees_sub, rec_k, tn1, tn2, tn3, tn4, tn5, tn6] at hx; omega) | (refine absurd (hx.symm.trans ?_) Bool.false_ne_true; (try simp only [Bool.and_eq_true, decide_eq_true_eq]); (try simp (disch := omega) [leavesIds, V.leaves, Leaf.ids, mem?, nbeq, Ty.width, wrap_id, View.lenN, View.off, View.len_eq, sees_tail, sees_sub, rec_k, tn1, tn2, tn3, tn4, tn5, tn6]); (try omega); done) | omega) | (conv => lhs; whnf))
      conv => lhs; arg 3; whnf
      rewrite [show (p :: q).getD ((View.tail 0).off + Int.toNat 0) (Ty.dflt SLI) = p from rfl, hw]
      conv => lhs; whnf
      repeat' ((first | split | ((conv => lhs; arg 3; whnf); split)) <;> first | (exfalso; rename_i hx; first | (simp (disch := omega) [leavesIds, V.leaves, Leaf.ids, mem?, nbeq, Ty.width, wrap_id, View.lenN, View.off, View.len_eq, sees_tail, sees_sub, rec_k, tn1, tn2, tn3, tn4, tn5, tn6, hl', hfw, hc, hx1, hx2, hbl, hnl] at hx; done) | (simp (disch := omega) [leavesIds, V.leaves, Leaf.ids, mem?, nbeq, Ty.width, wrap_id, View.lenN, View.off, View.len_eq, sees_tail, sees_sub, rec_k, tn1, tn2, tn3, tn4, tn5, tn6, hl', hfw, hc, hx1, hx2, hbl, hnl] at hx; omega) | (refine absurd (hx.symm.trans ?_) Bool.false_ne_true; (try simp only [Bool.and_eq_true, decide_eq_true_eq]); (try simp (disch := omega) [leavesIds, V.leaves, Leaf.ids, mem?, nbeq, Ty.width, wrap_id, View.lenN, View.off, View.len_eq, sees_tail, sees_sub, rec_k, tn1, tn2, tn3, tn4, tn5, tn6, hl', hfw, hc, hx1, hx2, hbl, hnl]); (try omega); done) | omega) | (rename_i he; cases he; conv => lhs; whnf) | (conv => lhs; whnf))
      exact hf
    | false =>
      rw [hc, cond_false] at hf
      conv => lhs; whnf
      (split <;> first | (exfalso; rename_i hx; first | (simp (disch := omega) [leavesIds, V.leaves, Leaf.ids, mem?, nbeq, Ty.width, wrap_id, View.lenN, View.off, View.len_eq, sees_tail, sees_sub, rec_k, tn1, tn2, tn3, tn4, tn5, tn6] at hx; done) | (simp (disch := omega) [leavesIds, V.leaves, Leaf.ids, mem?, nbeq, Ty.width, wrap_id, View.lenN, View.off, View.len_eq, sees_tail, sees_sub, rec_k, tn1, tn2, tn3, tn4, tn5, tn6] at hx; omega) | (refine absurd (hx.symm.trans ?_) Bool.false_ne_true; (try simp only [Bool.and_eq_true, decide_eq_true_eq]); (try simp (disch := omega) [leavesIds, V.leaves, Leaf.ids, mem?, nbeq, Ty.width, wrap_id, View.lenN, View.off, View.len_eq, sees_tail, sees_sub, rec_k, tn1, tn2, tn3, tn4, tn5, tn6]); (try omega); done) | omega) | (conv => lhs; whnf))
      (split <;> first | (exfalso; rename_i hx; first | (simp (disch := omega) [leavesIds, V.leaves, Leaf.ids, mem?, nbeq, Ty.width, wrap_id, View.lenN, View.off, View.len_eq, sees_tail, sees_sub, rec_k, tn1, tn2, tn3, tn4, tn5, tn6] at hx; done) | (simp (disch := omega) [leavesIds, V.leaves, Leaf.ids, mem?, nbeq, Ty.width, wrap_id, View.lenN, View.off, View.len_eq, sees_tail, sees_sub, rec_k, tn1, tn2, tn3, tn4, tn5, tn6] at hx; omega) | (refine absurd (hx.symm.trans ?_) Bool.false_ne_true; (try simp only [Bool.and_eq_true, decide_eq_true_eq]); (try simp (disch := omega) [leavesIds, V.leaves, Leaf.ids, mem?, nbeq, Ty.width, wrap_id, View.lenN, View.off, View.len_eq, sees_tail, sees_sub, rec_k, tn1, tn2, tn3, tn4, tn5, tn6]); (try omega); done) | omega) | (conv => lhs; whnf))
      (split <;> first | (exfalso; rename_i hx; first | (simp (disch := omega) [leavesIds, V.leaves, Leaf.ids, mem?, nbeq, Ty.width, wrap_id, View.lenN, View.off, View.len_eq, sees_tail, sees_sub, rec_k, tn1, tn2, tn3, tn4, tn5, tn6] at hx; done) | (simp (disch := omega) [leavesIds, V.leaves, Leaf.ids, mem?, nbeq, Ty.width, wrap_id, View.lenN, View.off, View.len_eq, sees_tail, sees_sub, rec_k, tn1, tn2, tn3, tn4, tn5, tn6] at hx; omega) | (refine absurd (hx.symm.trans ?_) Bool.false_ne_true; (try simp only [Bool.and_eq_true, decide_eq_true_eq]); (try simp (disch := omega) [leavesIds, V.leaves, Leaf.ids, mem?, nbeq, Ty.width, wrap_id, View.lenN, View.off, View.len_eq, sees_tail, sees_sub, rec_k, tn1, tn2, tn3, tn4, tn5, tn6]); (try omega); done) | omega) | (conv => lhs; whnf))
      conv => lhs; arg 3; whnf
      rewrite [show (p :: q).getD ((View.tail 0).off + Int.toNat 0) (Ty.dflt SLI) = p from rfl, hw]
      conv => lhs; whnf
      repeat' ((first | split | ((conv => lhs; arg 3; whnf); split)) <;> first | (exfalso; rename_i hx; first | (simp (disch := omega) [leavesIds, V.leaves, Leaf.ids, mem?, nbeq, Ty.width, wrap_id, View.lenN, View.off, View.len_eq, sees_tail, sees_sub, rec_k, tn1, tn2, tn3, tn4, tn5, tn6, hl', hfw, hc, hx1, hx2, hbl, hnl] at hx; done) | (simp (disch := omega) [leavesIds, V.leaves, Leaf.ids, mem?, nbeq, Ty.width, wrap_id, View.lenN, View.off, View.len_eq, sees_tail, sees_sub, rec_k, tn1, tn2, tn3, tn4, tn5, tn6, hl', hfw, hc, hx1, hx2, hbl, hnl] at hx; omega) | (refine absurd (hx.symm.trans ?_) Bool.false_ne_true; (try simp only [Bool.and_eq_true, decide_eq_true_eq]); (try simp (disch := omega) [leavesIds, V.leaves, Leaf.ids, mem?, nbeq, Ty.width, wrap_id, View.lenN, View.off, View.len_eq, sees_tail, sees_sub, rec_k, tn1, tn2, tn3, tn4, tn5, tn6, hl', hfw, hc, hx1, hx2, hbl, hnl]); (try omega); done) | omega) | (rename_i he; cases he; conv => lhs; whnf) | (conv => lhs; whnf))
      rewrite [show p.getD ((n : Int).toNat) (Ty.dflt I) = l from (getD_nth p n _ hnl).trans hl']
      refine (loopP_eq (ciL_inj xs ws tx) (x := ⟨ks, q, p, blkS xs ws l, 0⟩) ⟨hU, hI', hp1, hp2, of_decide_eq_true e3, hmem⟩ _).trans ?_
      dsimp only
      rw [List.drop_zero]
      conv => lhs; whnf
      exact (hN ⟨_, _⟩ ⟨hU, a, ⟨hx1, hx2⟩, hfew⟩ (Nat.lt_of_le_of_lt b (by omega))).trans hf
open Classical in
noncomputable def pCycle := pureP [TB, I] fun x k => gd (decide (∀ t, blkFew x.1.1 x.1.2 t = true)) (k (.one (.sl I (cycF x.1.1 x.1.2 x.2.1) none none)) [])
theorem cycle_ok : COK Try.prog 6 pCycle := by
  refine pure_cokD fun ⟨⟨xs, ws⟩, tx, u⟩ hb => ?_
  refine ⟨_, cok_plain (fno_ok (x := fx6) (own := [5, 12]) (H := cyH) (L := [(12, ciL xs ws tx), (5, coL xs ws tx)]) rfl rfl ⟨tab_ok, blockers_ok, containsI_ok, cloneI_ok, trivial⟩ (by kernel_rfl) ⟨ciL_ok _ _ _, coL_ok _ _ _, trivial⟩), fun k r h => ?_⟩
  obtain ⟨h1, h⟩ := gd_some.mp h
  simp only [decide_eq_true_eq] at h1
  replace h1 : ∀ t, blkFew xs ws t = true := h1
  dsimp only at h
  unfold plainB
  unfold cycF at h
  cases ht : tabOk xs ws with
  | false =>
    rw [ht, cond_false] at h
    conv => lhs; whnf
    repeat' ((first | split | ((conv => lhs; arg 3; whnf); split)) <;> first | (exfalso; rename_i hx; first | (simp (disch := omega) [leavesIds, V.leaves, Leaf.ids, mem?, nbeq, Ty.width, wrap_id, View.lenN, View.off, View.len_eq, sees_tail, sees_sub, rec_k, tn1, tn2, tn3, tn4, tn5, tn6, ht] at hx; done) | (simp (disch := omega) [leavesIds, V.leaves, Leaf.ids, mem?, nbeq, Ty.width, wrap_id, View.lenN, View.off, View.len_eq, sees_tail, sees_sub, rec_k, tn1, tn2, tn3, tn4, tn5, tn6, ht] at hx; omega) | (refine absurd (hx.symm.trans ?_) Bool.false_ne_true; (try simp only [Bool.and_eq_true, decide_eq_true_eq]); (try simp (disch := omega) [leavesIds, V.leaves, Leaf.ids, mem?, nbeq, Ty.width, wrap_id, View.lenN, View.off, View.len_eq, sees_tail, sees_sub, rec_k, tn1, tn2, tn3, tn4, tn5, tn6, ht]); (try omega); done) | omega) | (rename_i he; cases he; conv => lhs; whnf) | (conv => lhs; whnf))
    exact h
  | true =>
    have hlen := tabOk_len ht
    rw [ht, cond_true] at h
    conv => lhs; whnf
    repeat' ((first | split | ((conv => lhs; arg 3; whnf); split)) <;> first | (exfalso; rename_i hx; first | (simp (disch := omega) [leavesIds, V.leaves, Leaf.ids, mem?, nbeq, Ty.width, wrap_id, View.lenN, View.off, View.len_eq, sees_tail, sees_sub, rec_k, tn1, tn2, tn3, tn4, tn5, tn6, ht] at hx; done) | (simp (disch := omega) [leavesIds, V.leaves, Leaf.ids, mem?, nbeq, Ty.width, wrap_id, View.lenN, View.off, View.len_eq, sees_tail, sees_sub, rec_k, tn1, tn2, tn3, tn4, tn5, tn6, ht] at hx; omega) | (refine absurd (hx.symm.trans ?_) Bool.false_ne_true; (try simp only [Bool.and_eq_true, decide_eq_true_eq]); (try simp (disch := omega) [leavesIds, V.leaves, Leaf.ids, mem?, nbeq, Ty.width, wrap_id, View.lenN, View.off, View.len_eq, sees_tail, sees_sub, rec_k, tn1, tn2, tn3, tn4, tn5, tn6, ht]); (try omega); done) | omega) | (rename_i he; cases he; conv => lhs; whnf) | (conv => lhs; whnf))
    refine (loopP_eq (fun x y h h' => coL_inj xs ws tx x y rfl h') (x := ⟨[tx], [[tx]]⟩) ⟨by simp only [allTx, List.length_append, List.length_map]; omega, inv0 xs ws tx, by omega, h1⟩ _).trans ?_
    dsimp only
    cases hf : bfsF xs ws tx [tx] [[tx]] with
    | none =>
      rw [hf] at h
      conv => lhs; whnf
      exact h
    | some p =>
      rw [hf] at h
      conv => lhs; whnf
      exact h
end Go.Ev.Tab

/- Would; equal lists; the draws: contracts. Own work. -/
set_option maxRecDepth 100000
set_option maxHeartbeats 1000000
set_option linter.unusedVariables false
set_option linter.unusedSimpArgs false
namespace Go.Ev.Tab
open Go Go.Ev.X Go.Proofs

/-! ### whether a request would close a circle -/
open Classical in
noncomputable def pWould := pureP [TB, G] fun x k => match reqF x.1.1 x.1.2 x.2.1 with
  | .ok xs ws h => gd (decide (∀ t, blkFew xs ws t)) (k (.tup [.one (.sl I (cycF xs ws x.2.1.1) none none), .one (.int .i64 0)]) [])
  | .err _ => none
theorem would_ok : COK Try.prog 15 pWould := by
  refine pure_cok (cok_plain (fn_ok (x := fx15) (H := [(14, pRequest), (6, pCycle)]) (L := []) rfl rfl ⟨request_ok, cycle_ok, trivial⟩ (by kernel_rfl) trivial)) ?_
  rintro ⟨⟨xs, ws⟩, ⟨ga, ⟨gb, gc⟩, gd⟩, u⟩ k r hb h
  clear hb
  unfold plainB
  obtain ⟨R, hR⟩ : ∃ R, reqF xs ws (ga, (gb, gc), gd) = R := ⟨_, rfl⟩
  dsimp only at h
  rw [hR] at h
  cases R with
  | err e => cases h
  | ok xs' ws' held =>
    obtain ⟨h1, h⟩ := gd_some.mp h
    conv => lhs; whnf
    split
    rotate_left
    · rename_i hx
      have hx' : frz [] (reqAV (reqF xs ws (ga, (gb, gc), gd))) = none := hx
      rw [hR] at hx'
      cases hx'
    rename_i hx
    have hx' : frz [] (reqAV (reqF xs ws (ga, (gb, gc), gd))) = some _ := hx
    rw [hR] at hx'
    cases hx'
    conv => lhs; whnf
    repeat' ((first | split | ((conv => lhs; arg 3; whnf); split)) <;> first | (exfalso; rename_i hx; first | (simp (disch := omega) [leavesIds, V.leaves, Leaf.ids, mem?, nbeq, Ty.width, wrap_id, View.lenN, View.off, View.len_eq, sees_tail, sees_sub, rec_k, tn1, tn2, tn3, tn4, tn5, tn6, h1] at hx; done) | (simp (disch := omega) [leavesIds, V.leaves, Leaf.ids, mem?, nbeq, Ty.width, wrap_id, View.lenN, View.off, View.len_eq, sees_tail, sees_sub, rec_k, tn1, tn2, tn3, tn4, tn5, tn6, h1] at hx; omega) | (refine absurd (hx.symm.trans ?_) Bool.false_ne_true; (try simp only [Bool.and_eq_true, decide_eq_true_eq]); (try simp (disch := omega) [leavesIds, V.leaves, Leaf.ids, mem?, nbeq, Ty.width, wrap_id, View.lenN, View.off, View.len_eq, sees_tail, sees_sub, rec_k, tn1, tn2, tn3, tn4, tn5, tn6, h1]); (try omega); done) | omega) | (rename_i he; cases he; conv => lhs; whnf) | (conv => lhs; whnf))
    exact h

/-! ### equal lists -/
noncomputable def inL (xs ys : List Int) := loopP (α := Nat) (fun i => [.one (.sl I xs none none), .one (.sl I ys none none), .one (.int .i64 i)]) (fun _ => []) (fun _ => xs.length ≤ big ∧ ys.length = xs.length)
  (fun i K => bif decide (xs.drop i = ys.drop i) then K.exit 0 [] [] else K.ret [.one (.bool false)] [])
theorem inL_inj (xs ys : List Int) (i j : Nat) (h : [AV.one (.sl I xs none none), .one (.sl I ys none none), .one (.int .i64 i)] = [.one (.sl I xs none none), .one (.sl I ys none none), .one (.int .i64 j)]) : i = j := by
  simp only [List.cons.injEq] at h
  exact int_last h.2.2.1
theorem inL_ok (xs ys : List Int) : LoopOK (rc [] [(4, inL xs ys)] fx16) (loopB 4 (codeOf fx16)) (inL xs ys) := by
  refine loopP_ok (fun i j h _ => inL_inj xs ys i j h) (fun i => xs.length - i) ?_
  intro i K r N ⟨hb, hl⟩ hN hf
  try dsimp only at hN
  try dsimp only at hf
  have hb' : xs.length < 9223372036854775807 := Nat.lt_of_le_of_lt hb (by decide)
  rcases Nat.lt_or_ge i xs.length with h | h
  · have h' : i < ys.length := by omega
    obtain ⟨a, ha⟩ : ∃ a, xs[i] = a := ⟨_, rfl⟩
    obtain ⟨b, hb2⟩ : ∃ b, ys[i] = b := ⟨_, rfl⟩
    rw [drop_nth xs i h, drop_nth ys i h', ha, hb2] at hf
    have hz : decide (a :: xs.drop (i + 1) = b :: ys.drop (i + 1)) = (decide (a = b) && decide (xs.drop (i + 1) = ys.drop (i + 1))) := by
      rw [Bool.eq_iff_iff]; simp
    rw [hz] at hf
    have e1 := lt_t h
    have e2 := ix_t (a := I.width) (b := 1) rfl h
    have e3 := ix_t (a := I.width) (b := 1) rfl h'
    cases hc : decide (a = b) with
    | true =>
      have hc' := of_decide_eq_true hc
      subst hc'
      rw [hc, Bool.true_and] at hf
      conv => lhs; whnf
      repeat' ((first | split | ((conv => lhs; arg 3; whnf); split)) <;> first | (exfalso; rename_i hx; first | (simp (disch := omega) [leavesIds, V.leaves, Leaf.ids, mem?, nbeq, Ty.width, wrap_id, View.lenN, View.off, View.len_eq, sees_tail, sees_sub, rec_k, tn1, tn2, tn3, tn4, tn5, tn6, ha, hb2] at hx; done) | (simp (disch := omega) [leavesIds, V.leaves, Leaf.ids, mem?, nbeq, Ty.width, wrap_id, View.lenN, View.off, View.len_eq, sees_tail, sees_sub, rec_k, tn1, tn2, tn3, tn4, tn5, tn6, ha, hb2] at hx; omega) | (refine absurd (hx.symm.trans ?_) Bool.false_ne_true; (try simp only [Bool.and_eq_true, decide_eq_true_eq]); (try simp (disch := omega) [leavesIds, V.leaves, Leaf.ids, mem?, nbeq, Ty.width, wrap_id, View.lenN, View.off, View.len_eq, sees_tail, sees_sub, rec_k, tn1, tn2, tn3, tn4, tn5, tn6, ha, hb2]); (try omega); done) | omega) | (rename_i he; cases he; conv => lhs; whnf) | (conv => lhs; whnf))
      rewrite [succ_w (by omega)]
      exact (hN (i + 1) ⟨hb, hl⟩ (by omega)).trans hf
    | false =>
      have hc' := of_decide_eq_false hc
      rw [hc, Bool.false_and] at hf
      conv => lhs; whnf
      repeat' ((first | split | ((conv => lhs; arg 3; whnf); split)) <;> first | (exfalso; rename_i hx; first | (simp (disch := omega) [leavesIds, V.leaves, Leaf.ids, mem?, nbeq, Ty.width, wrap_id, View.lenN, View.off, View.len_eq, sees_tail, sees_sub, rec_k, tn1, tn2, tn3, tn4, tn5, tn6, ha, hb2, hc'] at hx; done) | (simp (disch := omega) [leavesIds, V.leaves, Leaf.ids, mem?, nbeq, Ty.width, wrap_id, View.lenN, View.off, View.len_eq, sees_tail, sees_sub, rec_k, tn1, tn2, tn3, tn4, tn5, tn6, ha, hb2, hc'] at hx; omega) | (refine absurd (hx.symm.trans ?_) Bool.false_ne_true; (try simp only [Bool.and_eq_true, decide_eq_true_eq]); (try simp (disch := omega) [leavesIds, V.leaves, Leaf.ids, mem?, nbeq, Ty.width, wrap_id, View.lenN, View.off, View.len_eq, sees_tail, sees_sub, rec_k, tn1, tn2, tn3, tn4, tn5, tn6, ha, hb2, hc']); (try omega); done) | omega) | (rename_i he; cases he; conv => lhs; whnf) | (conv => lhs; whnf))
      exact hf
  · have hz : decide (xs.drop i = ys.drop i) = true := by rw [List.drop_eq_nil_of_le h, List.drop_eq_nil_of_le (by omega)]; rfl
    rw [hz] at hf
    conv => lhs; whnf
    split
    · rename_i hx
      exact tf hx (lt_f h)
    conv => lhs; whnf
    exact hf
def pInts := pureP [.sl I, .sl I] fun x k => k (.one (.bool (decide ((x.1 : List Int) = x.2.1)))) []
theorem ints_ok : COK Try.prog 16 pInts := by
  refine pure_cokD fun ⟨xs, ys, u⟩ ⟨hb0, hb1⟩ => ?_
  have hb0 : List.length xs ≤ big := hb0.1
  refine ⟨_, fn_ok (x := fx16) (H := []) (L := [(4, inL xs ys)]) rfl rfl trivial (by kernel_rfl) ⟨inL_ok xs ys, trivial⟩, fun k r h => ?_⟩
  dsimp only at h
  by_cases hl : List.length xs = List.length ys
  · have e1 : (!((List.length xs : Int) == (List.length ys : Int))) = false := by simp [hl]
    conv => lhs; whnf
    split
    · rename_i hx
      exact tf hx (e1)
    conv => lhs; whnf
    refine (loopP_eq (fun i j h _ => inL_inj xs ys i j h) (x := 0) ⟨hb0, hl.symm⟩ _).trans ?_
    dsimp only
    rw [List.drop_zero, List.drop_zero]
    cases hc : decide (xs = ys) with
    | true =>
      rw [hc] at h
      conv => lhs; whnf
      exact h
    | false =>
      rw [hc] at h
      conv => lhs; whnf
      exact h
  · have e1 : (!((List.length xs : Int) == (List.length ys : Int))) = true := by simp; omega
    have hc : decide ((xs : List Int) = ys) = false := decide_eq_false fun e => hl (by rw [e])
    rw [hc] at h
    conv => lhs; whnf
    split
    rotate_left
    · rename_i hx
      exact tf (e1) hx
    conv => lhs; whnf
    exact h
end Go.Ev.Tab

/- The draws: contracts. Own work. -/
set_option maxRecDepth 100000
set_option maxHeartbeats 1000000
set_option linter.unusedVariables false
set_option linter.unusedSimpArgs false
namespace Go.Ev.Tab
open Go Go.Ev.X Go.Proofs

abbrev U8 : Ty := .int .u8
def pNew : List AV → Mem → AK → R := fun args m k =>
  match args, m with
  | [.val (.one (.sl (.int .u8) l none none)), .val (.one (.int .i64 n))], [] =>
    gd (decide (0 ≤ n)) (k (.one (.ptr 100000000 0 none)) [(100000000, .box false [.sl U8 (l.take n.toNat) none none, .int .i64 0])])
  | _, _ => none
theorem new_ok : COK Try.prog 7 pNew := by
  refine ⟨CallOK.weaken (fn_ok (x := fx7) (H := []) (L := []) rfl rfl trivial (by kernel_rfl) trivial).ok fun args m k r h => ?_⟩
  unfold pNew at h
  split at h
  · rename_i l n
    obtain ⟨hb, h⟩ := gd_some.mp h
    simp only [decide_eq_true_eq] at hb
    obtain ⟨N, rfl⟩ := Int.eq_ofNat_of_zero_le hb
    rcases Nat.lt_or_ge N (List.length l) with hl | hl
    · conv => lhs; whnf
      repeat' ((first | split | ((conv => lhs; arg 3; whnf); split)) <;> first | (exfalso; rename_i hx; first | (simp (disch := omega) [leavesIds, V.leaves, Leaf.ids, mem?, nbeq, Ty.width, wrap_id, View.lenN, View.off, View.len_eq, sees_tail, sees_sub, rec_k, tn1, tn2, tn3, tn4, tn5, tn6] at hx; done) | (simp (disch := omega) [leavesIds, V.leaves, Leaf.ids, mem?, nbeq, Ty.width, wrap_id, View.lenN, View.off, View.len_eq, sees_tail, sees_sub, rec_k, tn1, tn2, tn3, tn4, tn5, tn6] at hx; omega) | (refine absurd (hx.symm.trans ?_) Bool.false_ne_true; (try simp only [Bool.and_eq_true, decide_eq_true_eq]); (try simp (disch := omega) [leavesIds, V.leaves, Leaf.ids, mem?, nbeq, Ty.width, wrap_id, View.lenN, View.off, View.len_eq, sees_tail, sees_sub, rec_k, tn1, tn2, tn3, tn4, tn5, tn6]); (try omega); done) | omega) | (rename_i he; cases he; conv => lhs; whnf) | (conv => lhs; whnf))
      exact h
    · rw [show (N : Int).toNat = N from rfl, List.take_of_length_le hl] at h
      conv => lhs; whnf
      repeat' ((first | split | ((conv => lhs; arg 3; whnf); split)) <;> first | (exfalso; rename_i hx; first | (simp (disch := omega) [leavesIds, V.leaves, Leaf.ids, mem?, nbeq, Ty.width, wrap_id, View.lenN, View.off, View.len_eq, sees_tail, sees_sub, rec_k, tn1, tn2, tn3, tn4, tn5, tn6] at hx; done) | (simp (disch := omega) [leavesIds, V.leaves, Leaf.ids, mem?, nbeq, Ty.width, wrap_id, View.lenN, View.off, View.len_eq, sees_tail, sees_sub, rec_k, tn1, tn2, tn3, tn4, tn5, tn6] at hx; omega) | (refine absurd (hx.symm.trans ?_) Bool.false_ne_true; (try simp only [Bool.and_eq_true, decide_eq_true_eq]); (try simp (disch := omega) [leavesIds, V.leaves, Leaf.ids, mem?, nbeq, Ty.width, wrap_id, View.lenN, View.off, View.len_eq, sees_tail, sees_sub, rec_k, tn1, tn2, tn3, tn4, tn5, tn6]); (try omega); done) | omega) | (rename_i he; cases he; conv => lhs; whnf) | (conv => lhs; whnf))
      exact h
  · cases h
def pLeft : List AV → Mem → AK → R := fun args m k =>
  match args, m with
  | [.val (.one (.ptr 0 0 none))], [(0, .box false [.sl (.int .u8) l none none, .int .i64 a])] =>
    gd (decide (0 ≤ a) && decide (a ≤ l.length) && decide (l.length ≤ 300)) (k (.one (.int .i64 (l.length - a))) [(0, .box false [.sl U8 l none none, .int .i64 a])])
  | _, _ => none
theorem left_ok : COK Try.prog 8 pLeft := by
  refine ⟨CallOK.weaken (fn_ok (x := fx8) (H := []) (L := []) rfl rfl trivial (by kernel_rfl) trivial).ok fun args m k r h => ?_⟩
  unfold pLeft at h
  split at h
  · rename_i l a
    obtain ⟨hb, h⟩ := gd_some.mp h
    simp only [Bool.and_eq_true, decide_eq_true_eq] at hb
    obtain ⟨⟨h1, h2⟩, h3⟩ := hb
    have hw : IntKind.i64.wrap ((List.length l : Int) - a) = (List.length l : Int) - a := wrap_id (by omega) (by omega)
    conv => lhs; whnf
    rewrite [hw]
    exact h
  · cases h
/-- What one draw takes, and where it leaves off. -/
def nxV (l : List Int) (a : Nat) (n : Int) : Int := bif decide (a < l.length) then (l.getD a 0) % n else 0
def nxA (l : List Int) (a : Nat) : Nat := bif decide (a < l.length) then a + 1 else a
def bytes (l : List Int) : Bool := l.all fun b => decide (0 ≤ b) && decide (b < 256)
def pNext : List AV → Mem → AK → R := fun args m k =>
  match args, m with
  | [.val (.one (.ptr 0 0 none)), .val (.one (.int .i64 n))], [(0, .box false [.sl (.int .u8) l none none, .int .i64 (.ofNat a)])] =>
    gd (decide (1 ≤ n) && decide (n ≤ 256) && decide (l.length ≤ 300) && bytes l) (k (.one (.int .i64 (nxV l a n))) [(0, .box false [.sl U8 l none none, .int .i64 (nxA l a : Nat)])])
  | _, _ => none
theorem next_ok : COK Try.prog 10 pNext := by
  refine ⟨CallOK.weaken (fn_ok (x := fx10) (H := []) (L := []) rfl rfl trivial (by kernel_rfl) trivial).ok fun args m k r h => ?_⟩
  unfold pNext at h
  split at h
  · rename_i n l a
    obtain ⟨hb, h⟩ := gd_some.mp h
    simp only [Bool.and_eq_true, decide_eq_true_eq] at hb
    obtain ⟨⟨⟨h1, h2⟩, h3⟩, h4⟩ := hb
    rcases Nat.lt_or_ge a (List.length l) with hl | hl
    · obtain ⟨b, hg⟩ : ∃ b, l[a] = b := ⟨_, rfl⟩
      simp only [nxV, nxA, decide_eq_true hl, cond_true] at h
      have hb := List.all_eq_true.mp h4 _ (List.getElem_mem hl)
      simp only [Bool.and_eq_true, decide_eq_true_eq] at hb
      have hz : l.getD ((Int.ofNat a).toNat) (Ty.dflt U8) = l[a] := getD_nth l a _ hl
      have hz' : l.getD a 0 = l[a] := getD_nth' l a _ hl
      have hm : (IntKind.i64.wrap (l.getD ((Int.ofNat a).toNat) (Ty.dflt U8))).tmod n = l.getD a 0 % n := by
        rw [hz, hz', wrap_id (by omega) (by omega)]
        exact Int.tmod_eq_emod_of_nonneg hb.1
      have hs : IntKind.i64.wrap (Int.ofNat a + 1) = (a + 1 : Nat) := succ_w (by omega)
      rw [← hm, ← hs] at h
      conv => lhs; whnf
      repeat' ((first | split | ((conv => lhs; arg 3; whnf); split)) <;> first | (exfalso; rename_i hx; first | (simp (disch := omega) [leavesIds, V.leaves, Leaf.ids, mem?, nbeq, Ty.width, wrap_id, View.lenN, View.off, View.len_eq, sees_tail, sees_sub, rec_k, tn1, tn2, tn3, tn4, tn5, tn6, hg] at hx; done) | (simp (disch := omega) [leavesIds, V.leaves, Leaf.ids, mem?, nbeq, Ty.width, wrap_id, View.lenN, View.off, View.len_eq, sees_tail, sees_sub, rec_k, tn1, tn2, tn3, tn4, tn5, tn6, hg] at hx; omega) | (refine absurd (hx.symm.trans ?_) Bool.false_ne_true; (try simp only [Bool.and_eq_true, decide_eq_true_eq]); (try simp (disch := omega) [leavesIds, V.leaves, Leaf.ids, mem?, nbeq, Ty.width, wrap_id, View.lenN, View.off, View.len_eq, sees_tail, sees_sub, rec_k, tn1, tn2, tn3, tn4, tn5, tn6, hg]); (try omega); done) | omega) | (rename_i he; cases he; conv => lhs; whnf) | (conv => lhs; whnf))
      exact h
    · simp only [nxV, nxA, decide_eq_false (show ¬ a < List.length l by omega), cond_false] at h
      conv => lhs; whnf
      repeat' ((first | split | ((conv => lhs; arg 3; whnf); split)) <;> first | (exfalso; rename_i hx; first | (simp (disch := omega) [leavesIds, V.leaves, Leaf.ids, mem?, nbeq, Ty.width, wrap_id, View.lenN, View.off, View.len_eq, sees_tail, sees_sub, rec_k, tn1, tn2, tn3, tn4, tn5, tn6] at hx; done) | (simp (disch := omega) [leavesIds, V.leaves, Leaf.ids, mem?, nbeq, Ty.width, wrap_id, View.lenN, View.off, View.len_eq, sees_tail, sees_sub, rec_k, tn1, tn2, tn3, tn4, tn5, tn6] at hx; omega) | (refine absurd (hx.symm.trans ?_) Bool.false_ne_true; (try simp only [Bool.and_eq_true, decide_eq_true_eq]); (try simp (disch := omega) [leavesIds, V.leaves, Leaf.ids, mem?, nbeq, Ty.width, wrap_id, View.lenN, View.off, View.len_eq, sees_tail, sees_sub, rec_k, tn1, tn2, tn3, tn4, tn5, tn6]); (try omega); done) | omega) | (rename_i he; cases he; conv => lhs; whnf) | (conv => lhs; whnf))
      exact h
  · cases h
/-- A drawn lock. -/
def grV (l : List Int) (a : Nat) : GG := (1 + nxV l a 5, (nxV l (nxA l a) 2, nxV l (nxA l (nxA l a)) 2), 1 + nxV l (nxA l (nxA l (nxA l a))) 2)
def grA (l : List Int) (a : Nat) : Nat := nxA l (nxA l (nxA l (nxA l a)))
theorem nxV_bnd (l : List Int) (a : Nat) (n : Int) (hn : 1 ≤ n) : 0 ≤ nxV l a n ∧ nxV l a n < n := by
  unfold nxV
  cases decide (a < l.length) with
  | true => exact ⟨Int.emod_nonneg _ (by omega), Int.emod_lt_of_pos _ (by omega)⟩
  | false => exact ⟨Int.le_refl _, by rw [cond_false]; omega⟩
def pGrant : List AV → Mem → AK → R := fun args m k =>
  match args, m with
  | [.val (.one (.ptr 0 0 none))], [(0, .box false [.sl (.int .u8) l none none, .int .i64 (.ofNat a)])] =>
    gd (decide (l.length ≤ 300) && bytes l) (k (.agg (gLeaves (grV l a))) [(0, .box false [.sl U8 l none none, .int .i64 (grA l a : Nat)])])
  | _, _ => none
theorem grant_ok : COK Try.prog 9 pGrant := by
  refine ⟨CallOK.weaken (fn_ok (x := fx9) (H := [(10, pNext)]) (L := []) rfl rfl ⟨next_ok, trivial⟩ (by kernel_rfl) trivial).ok fun args m k r h => ?_⟩
  unfold pGrant at h
  split at h
  · rename_i l a
    obtain ⟨hb, h⟩ := gd_some.mp h
    simp only [Bool.and_eq_true, decide_eq_true_eq] at hb
    obtain ⟨h3, h4⟩ := hb
    have n1 := nxV_bnd l a 5 (by omega)
    have n2 := nxV_bnd l (nxA l (nxA l (nxA l a))) 2 (by omega)
    have w1 : IntKind.i64.wrap (1 + nxV l a 5) = 1 + nxV l a 5 := wrap_id (by omega) (by omega)
    have w2 : IntKind.i64.wrap (1 + nxV l (nxA l (nxA l (nxA l a))) 2) = 1 + nxV l (nxA l (nxA l (nxA l a))) 2 := wrap_id (by omega) (by omega)
    conv => lhs; whnf
    repeat' ((first | split | ((conv => lhs; arg 3; whnf); split)) <;> first | (exfalso; rename_i hx; first | (simp (disch := omega) [leavesIds, V.leaves, Leaf.ids, mem?, nbeq, Ty.width, wrap_id, View.lenN, View.off, View.len_eq, sees_tail, sees_sub, rec_k, tn1, tn2, tn3, tn4, tn5, tn6, h4] at hx; done) | (simp (disch := omega) [leavesIds, V.leaves, Leaf.ids, mem?, nbeq, Ty.width, wrap_id, View.lenN, View.off, View.len_eq, sees_tail, sees_sub, rec_k, tn1, tn2, tn3, tn4, tn5, tn6, h4] at hx; omega) | (refine absurd (hx.symm.trans ?_) Bool.false_ne_true; (try simp only [Bool.and_eq_true, decide_eq_true_eq]); (try simp (disch := omega) [leavesIds, V.leaves, Leaf.ids, mem?, nbeq, Ty.width, wrap_id, View.lenN, View.off, View.len_eq, sees_tail, sees_sub, rec_k, tn1, tn2, tn3, tn4, tn5, tn6, h4]); (try omega); done) | omega) | (rename_i he; cases he; conv => lhs; whnf) | (conv => lhs; whnf))
    trace_state
    rewrite [w1, w2]
    exact h
  · cases h
end Go.Ev.Tab

/- The small example of a circle: contract. Own work. -/
set_option maxRecDepth 100000
set_option maxHeartbeats 1000000
set_option linter.unusedVariables false
set_option linter.unusedSimpArgs false
namespace Go.Ev.Tab
open Go Go.Ev.X Go.Proofs

theorem blk_le (w : GG) (l : List GG) : (blk w l).length ≤ l.length := by
  unfold blk
  rw [List.length_map]
  exact List.length_filter_le _ _
theorem blkFew_small {xs ws : List GG} (h : xs.length + ws.length ≤ 12) (t : Int) : blkFew xs ws t = true := by
  unfold blkFew
  split
  · rfl
  · rename_i j hj
    have h1 := blk_le (wOf ws j) xs
    have h2 := blk_le (wOf ws j) (ws.take j)
    rw [List.length_take] at h2
    refine decide_eq_true ?_
    unfold blkL
    rw [List.length_append]
    omega
def awX : List GG := [(1, (0, 0), 1), (2, (0, 0), 1)]
def awW : List GG := [(1, (0, 0), 2), (2, (0, 0), 2)]
theorem aw_req : reqF awX [(1, (0, 0), 2)] (2, (0, 0), 2) = .ok awX awW false := by kernel_rfl
theorem aw_cyc : cycF awX awW 2 = [2, 1] := by kernel_rfl
def pAwake := ansP [] fun _ => .one (.bool true)
theorem awake_ok : COK Try.prog 5 pAwake := by
  refine ans_cok (fn_ok (x := fx5) (H := [(15, pWould)]) (L := []) rfl rfl ⟨would_ok, trivial⟩ (by kernel_rfl) trivial) ?_
  rintro ⟨⟩ k hb
  have e1 : @decide (∀ t, blkFew awX awW t = true) (Classical.propDecidable _) = true := by
    simp only [decide_eq_true_eq]
    exact fun t => blkFew_small (by decide) t
  conv => lhs; whnf
  split
  rotate_left
  · rename_i hx
    exact tf e1 hx
  kernel_rfl
end Go.Ev.Tab

/- The table of locks in plain Lean: order, search, what a whole table is. Own work. -/
set_option maxRecDepth 100000
set_option linter.unusedVariables false
set_option linter.unusedSimpArgs false
namespace Go.Ev.Tab
open Go Go.Ev.X Go.Proofs

/-- The order of the held. -/
def Lt (a b : GG) : Prop := a.2.1.1 < b.2.1.1 ∨ (a.2.1.1 = b.2.1.1 ∧ (a.2.1.2 < b.2.1.2 ∨ (a.2.1.2 = b.2.1.2 ∧ a.1 < b.1)))
def Same (a b : GG) : Prop := a.2.1.1 = b.2.1.1 ∧ a.2.1.2 = b.2.1.2 ∧ a.1 = b.1
theorem cmpI_cases (a b : Int) : (a < b ∧ cmpI a b = -1) ∨ (a = b ∧ cmpI a b = 0) ∨ (b < a ∧ cmpI a b = 1) := by
  unfold cmpI
  rcases Int.lt_trichotomy a b with h | h | h
  · exact .inl ⟨h, by rw [if_pos h]⟩
  · subst h; exact .inr (.inl ⟨rfl, by simp⟩)
  · exact .inr (.inr ⟨h, by rw [if_neg (by omega), if_pos h]⟩)
theorem order_lt (a b : GG) : order a b < 0 ↔ Lt a b := by
  unfold order Lt
  rcases cmpI_cases a.2.1.1 b.2.1.1 with ⟨h1, e1⟩ | ⟨h1, e1⟩ | ⟨h1, e1⟩ <;> rcases cmpI_cases a.2.1.2 b.2.1.2 with ⟨h2, e2⟩ | ⟨h2, e2⟩ | ⟨h2, e2⟩ <;>
    rcases cmpI_cases a.1 b.1 with ⟨h3, e3⟩ | ⟨h3, e3⟩ | ⟨h3, e3⟩ <;> rw [e1, e2, e3] <;> simp [orI] <;> omega
theorem order_zero (a b : GG) : order a b = 0 ↔ Same a b := by
  unfold order Same
  rcases cmpI_cases a.2.1.1 b.2.1.1 with ⟨h1, e1⟩ | ⟨h1, e1⟩ | ⟨h1, e1⟩ <;> rcases cmpI_cases a.2.1.2 b.2.1.2 with ⟨h2, e2⟩ | ⟨h2, e2⟩ | ⟨h2, e2⟩ <;>
    rcases cmpI_cases a.1 b.1 with ⟨h3, e3⟩ | ⟨h3, e3⟩ | ⟨h3, e3⟩ <;> rw [e1, e2, e3] <;> simp [orI] <;> omega
theorem Lt.trans {a b c : GG} (h : Lt a b) (h' : Lt b c) : Lt a c := by unfold Lt at *; omega
theorem Lt.irrefl {a : GG} (h : Lt a a) : False := by unfold Lt at *; omega
theorem Lt.not_same {a b : GG} (h : Lt a b) (h' : Same a b) : False := by unfold Lt Same at *; omega
theorem lt_tri (a b : GG) : Lt a b ∨ Same a b ∨ Lt b a := by unfold Lt Same; omega
theorem Same.lt_l {a b c : GG} (h : Same a b) (h' : Lt b c) : Lt a c := by unfold Lt Same at *; omega
theorem Same.lt_r {a b c : GG} (h : Same b c) (h' : Lt a b) : Lt a c := by unfold Lt Same at *; omega
theorem Same.symm {a b : GG} (h : Same a b) : Same b a := by unfold Same at *; omega
theorem Same.trans {a b c : GG} (h : Same a b) (h' : Same b c) : Same a c := by unfold Same at *; omega
abbrev Sorted (xs : List GG) : Prop := xs.Pairwise Lt

/-! ### the search -/
theorem bsN_spec {xs : List GG} {g : GG} (hs : Sorted xs) : ∀ (n i j : Nat), j ≤ i + n → i ≤ j → j ≤ xs.length → (∀ q (h : q < xs.length), q < i → Lt xs[q] g) → (∀ q (h : q < xs.length), j ≤ q → ¬ Lt xs[q] g) →
    bsN xs g n i j ≤ xs.length ∧ (∀ q (h : q < xs.length), q < bsN xs g n i j → Lt xs[q] g) ∧ (∀ q (h : q < xs.length), bsN xs g n i j ≤ q → ¬ Lt xs[q] g)
  | 0, i, j, hn, hij, hj, h1, h2 => by
    rw [bsN]
    exact ⟨by omega, h1, fun q h hq => h2 q h (by omega)⟩
  | n + 1, i, j, hn, hij, hj, h1, h2 => by
    rw [bsN]
    split
    · rename_i hlt
      have hm : (i + j) / 2 < xs.length := by omega
      rw [getD_nth' xs _ _ hm]
      cases hc : decide (order xs[(i + j) / 2] g < 0) with
      | true =>
        rw [cond_true]
        have hc := (order_lt _ _).mp (of_decide_eq_true hc)
        refine bsN_spec hs n _ _ (by omega) (by omega) hj (fun q h hq => ?_) h2
        rcases Nat.lt_or_ge q ((i + j) / 2) with hq' | hq'
        · exact (List.pairwise_iff_getElem.mp hs q _ h hm hq').trans hc
        · obtain rfl : q = (i + j) / 2 := by omega
          exact hc
      | false =>
        rw [cond_false]
        have hc := fun h => of_decide_eq_false hc ((order_lt _ _).mpr h)
        refine bsN_spec hs n _ _ (by omega) (by omega) (by omega) h1 (fun q h hq hL => ?_)
        rcases Nat.lt_or_ge ((i + j) / 2) q with hq' | hq'
        · exact hc ((List.pairwise_iff_getElem.mp hs _ q hm h hq').trans hL)
        · obtain rfl : q = (i + j) / 2 := by omega
          exact hc hL
    · exact ⟨by omega, h1, fun q h hq => h2 q h (by omega)⟩
theorem bs_spec {xs : List GG} (hs : Sorted xs) (g : GG) : bs xs g ≤ xs.length ∧ (∀ q (h : q < xs.length), q < bs xs g → Lt xs[q] g) ∧ (∀ q (h : q < xs.length), bs xs g ≤ q → ¬ Lt xs[q] g) :=
  bsN_spec hs _ _ _ (by omega) (Nat.zero_le _) (Nat.le_refl _) (fun q _ h => absurd h (by omega)) (fun q h h' => absurd h (by omega))
theorem bsHit_at {xs : List GG} {g : GG} (h : bsHit xs g = true) : ∃ h : bs xs g < xs.length, Same xs[bs xs g] g := by
  unfold bsHit at h
  simp only [Bool.and_eq_true, decide_eq_true_eq, beq_iff_eq] at h
  rw [getD_nth' xs _ _ h.1] at h
  exact ⟨h.1, (order_zero _ _).mp h.2⟩
theorem bsHit_of {xs : List GG} (hs : Sorted xs) {g x : GG} (hx : x ∈ xs) (h : Same x g) : bsHit xs g = true ∧ xs.getD (bs xs g) g0 = x := by
  obtain ⟨h1, h2, h3⟩ := bs_spec hs g
  obtain ⟨q, hq, rfl⟩ := List.getElem_of_mem hx
  have hqp : ¬ q < bs xs g := fun hlt => (h2 q hq hlt).not_same h
  have hpq : ¬ bs xs g < q := fun hlt => h3 (bs xs g) (by omega) (Nat.le_refl _) (h.lt_r (List.pairwise_iff_getElem.mp hs _ _ (by omega) hq hlt))
  have e : bs xs g = q := by omega
  unfold bsHit
  rw [e, getD_nth' xs _ _ hq]
  refine ⟨?_, rfl⟩
  rw [decide_eq_true hq, (order_zero _ _).mpr h]
  rfl
theorem modeI_of {xs : List GG} (hs : Sorted xs) {tx : Int} {lk : Int × Int} {x : GG} (hx : x ∈ xs) (h : Same x (tx, lk, 0)) : modeI xs tx lk = x.2.2 := by
  obtain ⟨h1, h2⟩ := bsHit_of hs hx h
  unfold modeI
  rw [h1, cond_true, h2]
theorem modeI_none {xs : List GG} {tx : Int} {lk : Int × Int} (h : ∀ x ∈ xs, ¬ Same x (tx, lk, 0)) : modeI xs tx lk = 0 := by
  unfold modeI
  cases hh : bsHit xs (tx, lk, 0) with
  | false => rfl
  | true =>
    obtain ⟨h1, h2⟩ := bsHit_at hh
    exact absurd h2 (h _ (List.getElem_mem h1))
theorem modeI_mem {xs : List GG} (hs : Sorted xs) (tx : Int) (lk : Int × Int) : (∃ x ∈ xs, Same x (tx, lk, 0) ∧ modeI xs tx lk = x.2.2) ∨ (modeI xs tx lk = 0 ∧ ∀ x ∈ xs, ¬ Same x (tx, lk, 0)) := by
  by_cases h : ∃ x ∈ xs, Same x (tx, lk, 0)
  · obtain ⟨x, hx, h⟩ := h
    exact .inl ⟨x, hx, h, modeI_of hs hx h⟩
  · have h' : ∀ x ∈ xs, ¬ Same x (tx, lk, 0) := fun x hx hh => h ⟨x, hx, hh⟩
    exact .inr ⟨modeI_none h', h'⟩

/-! ### a whole table -/
structure TabI (xs ws : List GG) : Prop where
  len : xs.length + ws.length ≤ 1024
  hv : ∀ g ∈ xs, valid g = true
  hs : Sorted xs
  hc : ∀ a ∈ xs, ∀ b ∈ xs, conflict a b = false
  wv : ∀ w ∈ ws, valid w = true
  wm : ∀ w ∈ ws, modeI xs w.1 w.2.1 < w.2.2
  wn : (ws.map (·.1)).Nodup
theorem hAll_iff (xs : List GG) : ∀ (f i : Nat), hAll xs f i = true ↔ ∀ j, i ≤ j → j < i + f → hOk xs j = true
  | 0, i => by simp only [hAll, true_iff]; intro j h1 h2; omega
  | f + 1, i => by
    simp only [hAll, Bool.and_eq_true, hAll_iff xs f]
    refine ⟨fun ⟨h1, h2⟩ j hj hj' => ?_, fun h => ⟨h i (by omega) (by omega), fun j hj hj' => h j (by omega) (by omega)⟩⟩
    rcases Nat.lt_or_ge i j with hij | hij
    · exact h2 j (by omega) (by omega)
    · obtain rfl : j = i := by omega
      exact h1
theorem wAll_iff (xs ws : List GG) : ∀ (f i : Nat), wAll xs ws f i = true ↔ ∀ j, i ≤ j → j < i + f → wOk xs ws j = true
  | 0, i => by simp only [wAll, true_iff]; intro j h1 h2; omega
  | f + 1, i => by
    simp only [wAll, Bool.and_eq_true, wAll_iff xs ws f]
    refine ⟨fun ⟨h1, h2⟩ j hj hj' => ?_, fun h => ⟨h i (by omega) (by omega), fun j hj hj' => h j (by omega) (by omega)⟩⟩
    rcases Nat.lt_or_ge i j with hij | hij
    · exact h2 j (by omega) (by omega)
    · obtain rfl : j = i := by omega
      exact h1
theorem idxTx_none (t : Int) : ∀ (l : List GG) (n : Nat), (idxTx t l n).isSome = true ↔ t ∈ l.map (·.1)
  | [], n => by simp [idxTx]
  | g :: l, n => by
    rw [idxTx]
    cases hc : g.1 == t with
    | true => simp only [beq_iff_eq] at hc; simp [hc]
    | false =>
      simp only [beq_eq_false_iff_ne, ne_eq] at hc
      rw [cond_false, idxTx_none t l (n + 1), List.map_cons, List.mem_cons]
      exact ⟨.inr, fun h => h.resolve_left fun h => hc h.symm⟩
theorem conflict_iff (a b : GG) : conflict a b = true ↔ a.1 ≠ b.1 ∧ (a.2.1.1 = b.2.1.1 ∧ a.2.1.2 = b.2.1.2) ∧ (a.2.2 = 2 ∨ b.2.2 = 2) := by
  unfold conflict
  simp only [Bool.and_eq_true, Bool.or_eq_true, beq_iff_eq, bne_iff_ne, ne_eq, and_assoc]
theorem conflict_symm {a b : GG} (h : conflict a b = true) : conflict b a = true := by
  rw [conflict_iff] at *
  omega
theorem tabI_of {xs ws : List GG} (h : tabOk xs ws = true) : TabI xs ws := by
  unfold tabOk at h
  simp only [Bool.and_eq_true, decide_eq_true_eq] at h
  obtain ⟨hl, hh, hw⟩ := h
  have hh := fun j hj => (hAll_iff xs _ 0).mp hh j (Nat.zero_le _) (by rw [Nat.zero_add]; exact hj)
  have hw := fun j hj => (wAll_iff xs ws _ 0).mp hw j (Nat.zero_le _) (by rw [Nat.zero_add]; exact hj)
  have hadj : ∀ i (h : i + 1 < xs.length), Lt xs[i] xs[i + 1] ∧ conflict xs[i] xs[i + 1] = false := by
    intro i hi
    have := hh (i + 1) hi
    simp only [hOk, Bool.and_eq_true, Bool.not_eq_true', Bool.or_eq_false_iff, decide_eq_false_iff_not] at this
    rw [getD_nth' xs i _ (by omega), getD_nth' xs (i + 1) _ hi] at this
    exact ⟨(order_lt _ _).mp (by omega), this.2.2⟩
  have hlt : ∀ (d i : Nat) (h : i + d + 1 < xs.length), Lt xs[i] xs[i + d + 1] := by
    intro d
    induction d with
    | zero => intro i h; exact (hadj i h).1
    | succ d ih => intro i h; exact (ih i (by omega)).trans (hadj (i + d + 1) h).1
  have hs : Sorted xs := by
    refine List.pairwise_iff_getElem.mpr fun i j hi hj hij => ?_
    obtain ⟨d, rfl⟩ : ∃ d, j = i + d + 1 := ⟨j - i - 1, by omega⟩
    exact hlt d i hj
  have hv : ∀ g ∈ xs, valid g = true := by
    intro g hg
    obtain ⟨i, hi, rfl⟩ := List.getElem_of_mem hg
    have := hh i hi
    cases i with
    | zero => simp only [hOk] at this; rw [getD_nth' xs 0 _ hi] at this; exact this
    | succ i => simp only [hOk, Bool.and_eq_true] at this; rw [getD_nth' xs (i + 1) _ hi] at this; exact this.1
  have hno : ∀ i j (hi : i < xs.length) (hj : j < xs.length), i < j → conflict xs[i] xs[j] = false := by
    intro i j hi hj hij
    refine Bool.eq_false_iff.mpr fun hcf => ?_
    obtain ⟨c1, c2, c3⟩ := (conflict_iff _ _).mp hcf
    have b1 := hadj i (by omega)
    obtain ⟨j', rfl⟩ : ∃ j', j = j' + 1 := ⟨j - 1, by omega⟩
    have b2 := hadj j' hj
    have m1 : i + 1 = j' + 1 ∨ Lt xs[i + 1] xs[j' + 1] := by
      rcases Nat.lt_or_ge (i + 1) (j' + 1) with h | h
      · exact .inr (List.pairwise_iff_getElem.mp hs _ _ _ _ h)
      · exact .inl (by omega)
    have m2 : i = j' ∨ Lt xs[i] xs[j'] := by
      rcases Nat.lt_or_ge i j' with h | h
      · exact .inr (List.pairwise_iff_getElem.mp hs _ _ _ _ h)
      · exact .inl (by omega)
    have n1 := fun h => Bool.eq_false_iff.mp b1.2 ((conflict_iff _ _).mpr h)
    have n2 := fun h => Bool.eq_false_iff.mp b2.2 ((conflict_iff _ _).mpr h)
    have l1 := b1.1
    have l2 := b2.1
    rcases m1 with e | m1
    · obtain rfl : i = j' := by omega
      exact n1 ⟨c1, c2, c3⟩
    · rcases m2 with e | m2
      · subst e; exact m1.irrefl.elim
      · unfold Lt at *
        rcases c3 with c3 | c3
        · exact n1 ⟨by omega, by omega, .inl c3⟩
        · exact n2 ⟨by omega, by omega, .inr c3⟩
  refine ⟨hl, hv, hs, fun a ha b hb => ?_, fun w hw' => ?_, fun w hw' => ?_, ?_⟩
  · obtain ⟨i, hi, rfl⟩ := List.getElem_of_mem ha
    obtain ⟨j, hj, rfl⟩ := List.getElem_of_mem hb
    rcases Nat.lt_trichotomy i j with h | h | h
    · exact hno i j hi hj h
    · subst h
      exact Bool.eq_false_iff.mpr fun h => ((conflict_iff _ _).mp h).1 rfl
    · exact Bool.eq_false_iff.mpr fun h' => Bool.eq_false_iff.mp (hno j i hj hi h) (conflict_symm h')
  · obtain ⟨i, hi, rfl⟩ := List.getElem_of_mem hw'
    have := hw i hi
    simp only [wOk, Bool.and_eq_true] at this
    rw [getD_nth' ws i _ hi] at this
    exact this.1
  · obtain ⟨i, hi, rfl⟩ := List.getElem_of_mem hw'
    have := hw i hi
    simp only [wOk, Bool.and_eq_true, Bool.not_eq_true', Bool.or_eq_false_iff, decide_eq_false_iff_not] at this
    rw [getD_nth' ws i _ hi] at this
    omega
  · refine List.pairwise_iff_getElem.mpr fun i j hi hj hij e => ?_
    rw [List.length_map] at hi hj
    have := hw j hj
    simp only [wOk, Bool.and_eq_true, Bool.not_eq_true', Bool.or_eq_false_iff] at this
    have h2 := Bool.eq_false_iff.mp this.2.2
    rw [getD_nth' ws j _ hj] at h2
    refine h2 ((idxTx_none _ _ _).mpr ?_)
    rw [List.getElem_map, List.getElem_map] at e
    rw [← e]
    exact List.mem_map.mpr ⟨ws[i], List.mem_take_iff_getElem.mpr ⟨i, by omega, rfl⟩, rfl⟩
theorem tabOk_of {xs ws : List GG} (h : TabI xs ws) : tabOk xs ws = true := by
  unfold tabOk
  simp only [Bool.and_eq_true, decide_eq_true_eq]
  refine ⟨h.len, (hAll_iff _ _ _).mpr fun j _ hj => ?_, (wAll_iff _ _ _ _).mpr fun j _ hj => ?_⟩
  · rw [Nat.zero_add] at hj
    cases j with
    | zero => simp only [hOk]; rw [getD_nth' xs 0 _ hj]; exact h.hv _ (List.getElem_mem _)
    | succ j =>
      have := List.pairwise_iff_getElem.mp h.hs j (j + 1) (by omega) hj (by omega)
      simp only [hOk, Bool.and_eq_true, Bool.not_eq_true', Bool.or_eq_false_iff, decide_eq_false_iff_not]
      rw [getD_nth' xs j _ (by omega), getD_nth' xs (j + 1) _ hj]
      have := (order_lt _ _).mpr this
      exact ⟨h.hv _ (List.getElem_mem _), by omega, h.hc _ (List.getElem_mem _) _ (List.getElem_mem _)⟩
  · rw [Nat.zero_add] at hj
    have hm := h.wm _ (List.getElem_mem hj)
    simp only [wOk, Bool.and_eq_true, Bool.not_eq_true', Bool.or_eq_false_iff, decide_eq_false_iff_not]
    rw [getD_nth' ws j _ hj]
    refine ⟨h.wv _ (List.getElem_mem _), by omega, Bool.eq_false_iff.mpr fun hi => ?_⟩
    obtain ⟨x, hx, e⟩ := List.mem_map.mp ((idxTx_none _ _ _).mp hi)
    obtain ⟨i, hi, rfl⟩ := List.mem_take_iff_getElem.mp hx
    have := List.pairwise_iff_getElem.mp h.wn i j (by rw [List.length_map]; omega) (by rw [List.length_map]; exact hj) (by omega)
    rw [List.getElem_map, List.getElem_map] at this
    exact this e
end Go.Ev.Tab

/- The table of locks in plain Lean: what its functions keep. Own work. -/
set_option maxRecDepth 100000
set_option linter.unusedVariables false
set_option linter.unusedSimpArgs false
namespace Go.Ev.Tab
open Go Go.Ev.X Go.Proofs

theorem grant_hit {xs : List GG} {g : GG} (h : bsHit xs (g.1, g.2.1, 0) = true) : ∃ h : bs xs (g.1, g.2.1, 0) < xs.length, Same xs[bs xs (g.1, g.2.1, 0)] g ∧ grantF xs g = xs.set (bs xs (g.1, g.2.1, 0)) g := by
  obtain ⟨hp, hsm⟩ := bsHit_at h
  refine ⟨hp, hsm, ?_⟩
  unfold grantF
  rw [h, cond_true, getD_nth' xs _ _ hp]
  generalize xs[bs xs (g.1, g.2.1, 0)] = y at hsm
  obtain ⟨a, ⟨b, c⟩, d⟩ := y
  obtain ⟨a', ⟨b', c'⟩, d'⟩ := g
  obtain ⟨h1, h2, h3⟩ := hsm
  dsimp only at h1 h2 h3
  subst h1 h2 h3
  rfl
theorem grantF_mem {xs : List GG} (hs : Sorted xs) (g x : GG) : x ∈ grantF xs g ↔ x = g ∨ (x ∈ xs ∧ ¬ Same x g) := by
  cases hh : bsHit xs (g.1, g.2.1, 0) with
  | true =>
    obtain ⟨hp, hsm, e⟩ := grant_hit hh
    rw [e]
    generalize bs xs (g.1, g.2.1, 0) = p at hp hsm
    constructor
    · intro hx
      obtain ⟨q, hq, rfl⟩ := List.getElem_of_mem hx
      rw [List.length_set] at hq
      rw [List.getElem_set]
      split
      · exact .inl rfl
      · rename_i hpq
        refine .inr ⟨List.getElem_mem _, fun hsm' => ?_⟩
        rcases Nat.lt_or_ge p q with h | h
        · exact (List.pairwise_iff_getElem.mp hs p q hp hq h).not_same (hsm.trans hsm'.symm)
        · exact (List.pairwise_iff_getElem.mp hs q p hq hp (by omega)).not_same (hsm'.trans hsm.symm)
    · rintro (rfl | ⟨hx, hn⟩)
      · exact List.mem_iff_getElem.mpr ⟨p, by rw [List.length_set]; exact hp, by rw [List.getElem_set, if_pos rfl]⟩
      · obtain ⟨q, hq, rfl⟩ := List.getElem_of_mem hx
        refine List.mem_iff_getElem.mpr ⟨q, by rw [List.length_set]; exact hq, ?_⟩
        rw [List.getElem_set]
        split
        · rename_i hpq
          subst hpq
          exact absurd hsm hn
        · rfl
  | false =>
    have hno : ∀ x ∈ xs, ¬ Same x g := fun x hx h => by
      have := (bsHit_of hs hx (show Same x (g.1, g.2.1, 0) from h)).1
      rw [hh] at this
      cases this
    unfold grantF
    rw [hh, cond_false, ins, List.mem_append, List.mem_cons]
    conv => rhs; rw [← List.take_append_drop (bs xs (g.1, g.2.1, 0)) xs, List.mem_append]
    constructor
    · rintro (h | rfl | h)
      · exact .inr ⟨.inl h, hno _ (List.mem_of_mem_take h)⟩
      · exact .inl rfl
      · exact .inr ⟨.inr h, hno _ (List.mem_of_mem_drop h)⟩
    · rintro (rfl | ⟨h | h, _⟩)
      · exact .inr (.inl rfl)
      · exact .inl h
      · exact .inr (.inr h)
theorem grantF_sorted {xs : List GG} (hs : Sorted xs) (g : GG) : Sorted (grantF xs g) := by
  cases hh : bsHit xs (g.1, g.2.1, 0) with
  | true =>
    obtain ⟨hp, hsm, e⟩ := grant_hit hh
    rw [e]
    generalize bs xs (g.1, g.2.1, 0) = p at hp hsm
    refine List.pairwise_iff_getElem.mpr fun i j hi hj hij => ?_
    rw [List.length_set] at hi hj
    have := List.pairwise_iff_getElem.mp hs i j hi hj hij
    rw [List.getElem_set, List.getElem_set]
    split
    · rename_i h
      subst h
      rw [if_neg (by omega)]
      exact hsm.symm.lt_l this
    · split
      · rename_i h
        subst h
        exact hsm.lt_r this
      · exact this
  | false =>
    have hno : ∀ x ∈ xs, ¬ Same x g := fun x hx h => by
      have := (bsHit_of hs hx (show Same x (g.1, g.2.1, 0) from h)).1
      rw [hh] at this
      cases this
    obtain ⟨h1, h2, h3⟩ := bs_spec hs (g.1, g.2.1, 0)
    unfold grantF
    rw [hh, cond_false, ins]
    generalize bs xs (g.1, g.2.1, 0) = p at h1 h2 h3
    have hs' := hs
    rw [← List.take_append_drop p xs] at hs'
    obtain ⟨a, b, c⟩ := List.pairwise_append.mp hs'
    have hd : ∀ x ∈ xs.drop p, Lt g x := by
      intro x hx
      obtain ⟨i, hi, rfl⟩ := List.mem_drop_iff_getElem.mp hx
      rcases lt_tri g xs[p + i] with h | h | h
      · exact h
      · exact absurd h.symm (hno _ (List.getElem_mem _))
      · exact absurd h (h3 _ _ (by omega))
    refine List.pairwise_append.mpr ⟨a, List.pairwise_cons.mpr ⟨hd, b⟩, fun x hx y hy => ?_⟩
    rcases List.mem_cons.mp hy with rfl | hy
    · obtain ⟨i, hi, rfl⟩ := List.mem_take_iff_getElem.mp hx
      exact h2 _ _ (by omega)
    · exact c x hx y hy
theorem modeI_congr {xs ys : List GG} (hx : Sorted xs) (hy : Sorted ys) {tx : Int} {lk : Int × Int} (h : ∀ x, x.1 = tx → (x ∈ xs ↔ x ∈ ys)) : modeI xs tx lk = modeI ys tx lk := by
  rcases modeI_mem hx tx lk with ⟨x, hx', hsm, e⟩ | ⟨e, hn⟩
  · rw [e, modeI_of hy ((h x hsm.2.2).mp hx') hsm]
  · rw [e, modeI_none fun x hx' hsm => hn x ((h x hsm.2.2).mpr hx') hsm]

/-! ### who waits for whom -/
def E (xs ws : List GG) (t u : Int) : Prop := ∃ l w r g, ws = l ++ w :: r ∧ w.1 = t ∧ (g ∈ xs ∨ g ∈ l) ∧ conflict g w = true ∧ g.1 = u
/-- A table that came from another by giving up and taking over. -/
structure Red (xs ws xs' ws' : List GG) : Prop where
  tab : TabI xs' ws'
  edge : ∀ t u, E xs' ws' t u → E xs ws t u
  mem : ∀ x, (x ∈ xs' ∨ x ∈ ws') → x ∈ xs ∨ x ∈ ws
theorem Red.refl {xs ws : List GG} (h : TabI xs ws) : Red xs ws xs ws := ⟨h, fun _ _ h => h, fun _ h => h⟩
theorem Red.trans {xs ws xs' ws' xs2 ws2 : List GG} (h : Red xs ws xs' ws') (h' : Red xs' ws' xs2 ws2) : Red xs ws xs2 ws2 := ⟨h'.tab, fun t u e => h.edge t u (h'.edge t u e), fun x e => h.mem x (h'.mem x e)⟩
theorem split_cases {α : Type} {v : α} {r : List α} : ∀ {A B l : List α}, A ++ B = l ++ v :: r → (∃ a', A = l ++ v :: a' ∧ r = a' ++ B) ∨ (∃ b, B = b ++ v :: r ∧ l = A ++ b)
  | [], B, l, h => .inr ⟨l, h, rfl⟩
  | a :: A, B, [], h => by
    simp only [List.cons_append, List.nil_append, List.cons.injEq] at h
    obtain ⟨rfl, rfl⟩ := h
    exact .inl ⟨A, rfl, rfl⟩
  | a :: A, B, x :: l, h => by
    simp only [List.cons_append, List.cons.injEq] at h
    obtain ⟨rfl, h⟩ := h
    rcases split_cases h with ⟨a', rfl, rfl⟩ | ⟨b, rfl, rfl⟩
    · exact .inl ⟨a', rfl, rfl⟩
    · exact .inr ⟨b, rfl, rfl⟩
theorem valid_mode {g : GG} (h : valid g = true) : 0 < g.2.2 := by
  unfold valid at h
  simp only [Bool.and_eq_true, Bool.or_eq_true, beq_iff_eq] at h
  omega
theorem red_grant {xs A B : List GG} {w : GG} (h : TabI xs (A ++ w :: B)) (h1 : ∀ g ∈ xs, conflict g w = false) (h2 : ∀ g ∈ A, conflict g w = false) : Red xs (A ++ w :: B) (grantF xs w) (A ++ B) := by
  have hsub : (A ++ B).Sublist (A ++ w :: B) := List.Sublist.append_left (List.sublist_cons_self _ _) _
  have hne : ∀ v ∈ A ++ B, v.1 ≠ w.1 := by
    have := h.wn
    rw [List.map_append, List.map_cons] at this
    obtain ⟨a, b, c⟩ := List.pairwise_append.mp this
    intro v hv e
    rcases List.mem_append.mp hv with hv | hv
    · exact c _ (List.mem_map.mpr ⟨v, hv, rfl⟩) _ (by simp) e
    · exact (List.pairwise_cons.mp b).1 _ (List.mem_map.mpr ⟨v, hv, rfl⟩) e.symm
  have hw : w ∈ A ++ w :: B := by simp
  refine ⟨⟨?_, fun g hg => ?_, grantF_sorted h.hs w, fun a ha b hb => ?_, fun v hv => h.wv v (hsub.subset hv), fun v hv => ?_, ?_⟩, fun t u => ?_, fun x hx => ?_⟩
  · have := h.len
    have := grantF_len xs w
    simp only [List.length_append, List.length_cons] at *
    omega
  · rcases (grantF_mem h.hs w g).mp hg with rfl | ⟨hg, _⟩
    · exact h.wv _ hw
    · exact h.hv g hg
  · rcases (grantF_mem h.hs w a).mp ha with e | ⟨ha1, _⟩ <;> rcases (grantF_mem h.hs w b).mp hb with e' | ⟨hb1, _⟩
    · rw [e, e']; exact Bool.eq_false_iff.mpr fun h => ((conflict_iff _ _).mp h).1 rfl
    · rw [e]; exact Bool.eq_false_iff.mpr fun h' => Bool.eq_false_iff.mp (h1 b hb1) (conflict_symm h')
    · rw [e']; exact h1 a ha1
    · exact h.hc a ha1 b hb1
  · have hv' := hne v hv
    have := h.wm v (hsub.subset hv)
    rw [modeI_congr (ys := grantF xs w) h.hs (grantF_sorted h.hs w) fun x hx => ?_] at this
    · exact this
    · rw [grantF_mem h.hs]
      exact ⟨fun hm => .inr ⟨hm, fun hsm => hv' (by rw [← hx, hsm.2.2])⟩, fun hm => by
        rcases hm with rfl | hm
        · exact absurd hx.symm hv'
        · exact hm.1⟩
  · exact h.wn.sublist (hsub.map _)
  · rintro ⟨l, v, r, g, e, ht, hg, hcf, hu⟩
    have hg' : g ∈ l ∨ g = w ∨ g ∈ xs := by
      rcases hg with hg | hg
      · rcases (grantF_mem h.hs w g).mp hg with rfl | hg
        · exact .inr (.inl rfl)
        · exact .inr (.inr hg.1)
      · exact .inl hg
    rcases split_cases e with ⟨a', rfl, rfl⟩ | ⟨b, rfl, rfl⟩
    · refine ⟨l, v, a' ++ w :: B, g, by simp, ht, ?_, hcf, hu⟩
      rcases hg' with hg | rfl | hg
      · exact .inr hg
      · exact absurd (conflict_symm hcf) (Bool.eq_false_iff.mp (h2 v (by simp)))
      · exact .inl hg
    · refine ⟨A ++ w :: b, v, r, g, by simp, ht, ?_, hcf, hu⟩
      rcases hg' with hg | rfl | hg
      · refine .inr ?_
        rcases List.mem_append.mp hg with hg | hg
        · exact List.mem_append_left _ hg
        · exact List.mem_append_right _ (List.mem_cons_of_mem _ hg)
      · exact .inr (by simp)
      · exact .inl hg
  · rcases hx with hx | hx
    · rcases (grantF_mem h.hs w x).mp hx with rfl | ⟨hx, _⟩
      · exact .inr hw
      · exact .inl hx
    · exact .inr (hsub.subset hx)
theorem red_inn : ∀ (n : Nat) (xs ws : List GG) (i : Nat) (c : Bool), TabI xs ws → Red xs ws (innF n xs ws i c).1 (innF n xs ws i c).2.1
  | 0, xs, ws, i, c, h => Red.refl h
  | n + 1, xs, ws, i, c, h => by
    rw [innF]
    split
    · rename_i hi
      cases hb : blkF xs ws i with
      | true => exact red_inn n xs ws (i + 1) c h
      | false =>
        rw [cond_false]
        unfold blkF at hb
        rw [getD_nth' ws i _ hi] at hb ⊢
        simp only [Bool.or_eq_false_iff, List.any_eq_false, Bool.not_eq_true] at hb
        have e : ws = ws.take i ++ ws[i] :: ws.drop (i + 1) := by
          rw [← List.drop_eq_getElem_cons hi, List.take_append_drop]
        have hr : Red xs ws (grantF xs ws[i]) (ws.take i ++ ws.drop (i + 1)) := by
          generalize ws[i] = w at *
          generalize ws.take i = A at *
          generalize ws.drop (i + 1) = B at *
          subst e
          exact red_grant h hb.1 hb.2
        exact hr.trans (red_inn n _ _ i true hr.tab)
    · exact Red.refl h
theorem red_out : ∀ (n : Nat) (xs ws : List GG), TabI xs ws → Red xs ws (outF n xs ws).1 (outF n xs ws).2
  | 0, xs, ws, h => Red.refl h
  | n + 1, xs, ws, h => by
    rw [outF]
    have hr := red_inn ws.length xs ws 0 false h
    cases (innF ws.length xs ws 0 false).2.2 with
    | true => exact hr.trans (red_out n _ _ hr.tab)
    | false => exact hr
theorem red_settle {xs ws : List GG} (h : TabI xs ws) : Red xs ws (settleF xs ws).1 (settleF xs ws).2 := red_out _ _ _ h
theorem filter_split {α : Type} {p : α → Bool} {v : α} {r : List α} : ∀ {ws l : List α}, ws.filter p = l ++ v :: r → ∃ l' r', ws = l' ++ v :: r' ∧ ∀ x ∈ l, x ∈ l'
  | [], l, h => by simp at h
  | w :: ws, l, h => by
    rw [List.filter_cons] at h
    split at h
    · cases l with
      | nil =>
        simp only [List.nil_append, List.cons.injEq] at h
        obtain ⟨rfl, _⟩ := h
        exact ⟨[], ws, rfl, by simp⟩
      | cons x l =>
        simp only [List.cons_append, List.cons.injEq] at h
        obtain ⟨rfl, h⟩ := h
        obtain ⟨l', r', rfl, hl⟩ := filter_split h
        exact ⟨w :: l', r', rfl, fun x hx => by
          rcases List.mem_cons.mp hx with rfl | hx
          · simp
          · exact List.mem_cons_of_mem _ (hl x hx)⟩
    · obtain ⟨l', r', rfl, hl⟩ := filter_split h
      exact ⟨w :: l', r', rfl, fun x hx => List.mem_cons_of_mem _ (hl x hx)⟩
theorem red_wfilter {xs ws : List GG} (p : GG → Bool) (h : TabI xs ws) : Red xs ws xs (ws.filter p) := by
  have hm : ∀ x ∈ ws.filter p, x ∈ ws := fun x hx => (List.mem_filter.mp hx).1
  refine ⟨⟨by have := h.len; have := List.length_filter_le p ws; omega, h.hv, h.hs, h.hc, fun w hw => h.wv w (hm w hw), fun w hw => h.wm w (hm w hw), h.wn.sublist (List.filter_sublist.map _)⟩, fun t u => ?_, fun x hx => ?_⟩
  · rintro ⟨l, v, r, g, e, ht, hg, hcf, hu⟩
    obtain ⟨l', r', e', hl⟩ := filter_split e
    exact ⟨l', v, r', g, e', ht, hg.imp id (hl g), hcf, hu⟩
  · exact hx.imp id (hm x)
theorem red_xfilter {xs ws : List GG} (p : GG → Bool) (h : TabI xs ws) : Red xs ws (xs.filter p) ws := by
  have hm : ∀ x ∈ xs.filter p, x ∈ xs := fun x hx => (List.mem_filter.mp hx).1
  have hs : Sorted (xs.filter p) := h.hs.sublist List.filter_sublist
  refine ⟨⟨by have := h.len; have := List.length_filter_le p xs; omega, fun g hg => h.hv g (hm g hg), hs, fun a ha b hb => h.hc a (hm a ha) b (hm b hb), h.wv, fun w hw => ?_, h.wn⟩, fun t u => ?_, fun x hx => ?_⟩
  · rcases modeI_mem hs w.1 w.2.1 with ⟨x, hx, hsm, e⟩ | ⟨e, _⟩
    · rw [e, ← modeI_of h.hs (hm x hx) hsm]
      exact h.wm w hw
    · rw [e]
      exact valid_mode (h.wv w hw)
  · rintro ⟨l, v, r, g, e, ht, hg, hcf, hu⟩
    exact ⟨l, v, r, g, e, ht, hg.imp (hm g) id, hcf, hu⟩
  · exact hx.imp (hm x) id
theorem red_cancel {xs ws : List GG} (t : Int) (h : TabI xs ws) : Red xs ws (cancelF xs ws t).1 (cancelF xs ws t).2 := by
  unfold cancelF
  rw [tabOk_of h, cond_true]
  have h1 := red_wfilter (fun y => !(y.1 == t)) h
  exact h1.trans (red_settle h1.tab)
theorem red_drop {xs ws : List GG} (t p s : Int) (h : TabI xs ws) : Red xs ws (dropF xs ws t p s).1 (dropF xs ws t p s).2 := by
  unfold dropF
  rw [tabOk_of h, cond_true]
  have h1 := red_xfilter (fun y => !(y.1 == t && (y.2.1.1 == p && y.2.1.2 == s))) h
  exact h1.trans (red_settle h1.tab)
theorem red_release {xs ws : List GG} (t : Int) (h : TabI xs ws) : Red xs ws (releaseF xs ws t).1 (releaseF xs ws t).2 := by
  unfold releaseF
  rw [tabOk_of h, cond_true]
  have h1 := red_xfilter (fun y => !(y.1 == t)) h
  have h2 := red_wfilter (fun y => !(y.1 == t)) h1.tab
  exact (h1.trans h2).trans (red_settle h2.tab)

/-! ### a request -/
theorem idxP_no {α : Type} {p : α → Bool} : ∀ {l : List α} {n : Nat}, idxP p l n = none → ∀ x ∈ l, p x = false
  | [], n, h, x, hx => by simp at hx
  | y :: l, n, h, x, hx => by
    rw [idxP] at h
    cases hy : p y with
    | true => rw [hy] at h; cases h
    | false =>
      rw [hy, cond_false] at h
      rcases List.mem_cons.mp hx with rfl | hx
      · exact hy
      · exact idxP_no h x hx
theorem ins_inv {xs ws : List GG} {g : GG} (h : TabI xs ws) (p : Nat) (hv : valid g = true) (hn : ∀ w ∈ ws, w.1 ≠ g.1) (hm : modeI xs g.1 g.2.1 < g.2.2) (hl : xs.length + ws.length ≠ 1024) :
    TabI xs (ins ws p g) ∧ (∀ t u, E xs (ins ws p g) t u → E xs ws t u ∨ t = g.1 ∨ u = g.1) ∧ ∀ x, x ∈ ins ws p g → x ∈ ws ∨ x = g := by
  have hmem : ∀ x, x ∈ ins ws p g → x ∈ ws ∨ x = g := by
    intro x hx
    rw [ins, List.mem_append, List.mem_cons] at hx
    rcases hx with hx | hx | hx
    · exact .inl (List.mem_of_mem_take hx)
    · exact .inr hx
    · exact .inl (List.mem_of_mem_drop hx)
  refine ⟨⟨?_, h.hv, h.hs, h.hc, fun w hw => ?_, fun w hw => ?_, ?_⟩, fun t u => ?_, hmem⟩
  · have := h.len
    simp only [ins, List.length_append, List.length_take, List.length_cons, List.length_drop]
    omega
  · rcases hmem w hw with hw | rfl
    · exact h.wv w hw
    · exact hv
  · rcases hmem w hw with hw | rfl
    · exact h.wm w hw
    · exact hm
  · have := h.wn
    rw [← List.take_append_drop p ws, List.map_append] at this
    obtain ⟨a, b, c⟩ := List.pairwise_append.mp this
    rw [ins, List.map_append, List.map_cons]
    refine List.pairwise_append.mpr ⟨a, List.pairwise_cons.mpr ⟨fun y hy e => ?_, b⟩, fun x hx y hy => ?_⟩
    · obtain ⟨w, hw, rfl⟩ := List.mem_map.mp hy
      exact hn w (List.mem_of_mem_drop hw) e.symm
    · rcases List.mem_cons.mp hy with rfl | hy
      · obtain ⟨w, hw, rfl⟩ := List.mem_map.mp hx
        exact hn w (List.mem_of_mem_take hw)
      · exact c x hx y hy
  · rintro ⟨l, v, r, k, e, ht, hk, hcf, hu⟩
    rw [ins] at e
    have hws := List.take_append_drop p ws
    generalize ws.take p = A at *
    generalize ws.drop p = B at *
    subst hws
    rcases split_cases e with ⟨a', rfl, rfl⟩ | ⟨b, e', rfl⟩
    · exact .inl ⟨l, v, a' ++ B, k, by simp, ht, hk, hcf, hu⟩
    · cases b with
      | nil =>
        simp only [List.nil_append, List.cons.injEq] at e'
        exact .inr (.inl (by rw [e'.1, ht]))
      | cons y b =>
        simp only [List.cons_append, List.cons.injEq] at e'
        obtain ⟨rfl, rfl⟩ := e'
        by_cases hkg : k = g
        · exact .inr (.inr (by rw [← hu, hkg]))
        · refine .inl ⟨A ++ b, v, r, k, by simp, ht, hk.imp id fun hk => ?_, hcf, hu⟩
          rcases List.mem_append.mp hk with hk | hk
          · exact List.mem_append_left _ hk
          · rcases List.mem_cons.mp hk with hk | hk
            · exact absurd hk hkg
            · exact List.mem_append_right _ hk
theorem req_inv {xs ws xs' ws' : List GG} {g : GG} {b : Bool} (h : TabI xs ws) (hq : reqF xs ws g = .ok xs' ws' b) :
    TabI xs' ws' ∧ (∀ t u, E xs' ws' t u → E xs ws t u ∨ t = g.1 ∨ u = g.1) ∧ ∀ x, (x ∈ xs' ∨ x ∈ ws') → (x ∈ xs ∨ x ∈ ws) ∨ x = g := by
  unfold reqF at hq
  rw [tabOk_of h, cond_true] at hq
  cases hv : valid g with
  | false => rw [hv] at hq; cases hq
  | true =>
    rw [hv, cond_true] at hq
    cases hw : (waitF xs ws g.1).2 with
    | true =>
      rw [hw, cond_true] at hq
      cases hz : (waitF xs ws g.1).1.1 == g.1 && ((waitF xs ws g.1).1.2.1.1 == g.2.1.1 && (waitF xs ws g.1).1.2.1.2 == g.2.1.2 && (waitF xs ws g.1).1.2.2 == g.2.2) with
      | true => rw [hz, cond_true] at hq; cases hq; exact ⟨h, fun t u e => .inl e, fun x hx => .inl hx⟩
      | false => rw [hz, cond_false] at hq; cases hq
    | false =>
      rw [hw, cond_false] at hq
      have hn : ∀ w ∈ ws, w.1 ≠ g.1 := by
        unfold waitF at hw
        cases hi : idxP (fun w : GG => w.1 == g.1) ws 0 with
        | some j => rw [hi, tabOk_of h] at hw; cases hw
        | none => exact fun w hw' => by simpa using idxP_no hi w hw'
      cases hm : decide (modeI xs g.1 g.2.1 ≥ g.2.2) with
      | true => rw [hm, cond_true] at hq; cases hq; exact ⟨h, fun t u e => .inl e, fun x hx => .inl hx⟩
      | false =>
        rw [hm, cond_false] at hq
        have hm := of_decide_eq_false hm
        cases hl : decide (xs.length + ws.length = 1024) with
        | true => rw [hl, cond_true] at hq; cases hq
        | false =>
          rw [hl, cond_false] at hq
          have hl := of_decide_eq_false hl
          obtain ⟨h1, h2, h3⟩ := ins_inv h (placeF xs ws g) hv hn (by omega) hl
          have hr := red_settle h1
          cases hq
          exact ⟨hr.tab, fun t u e => h2 t u (hr.edge t u e), fun x hx => (hr.mem x hx).elim (fun h => .inl (.inl h)) fun h => (h3 x h).imp .inr id⟩
end Go.Ev.Tab

/- Circles in plain Lean: what the search finds. Own work. -/
set_option maxRecDepth 100000
set_option linter.unusedVariables false
set_option linter.unusedSimpArgs false
namespace Go.Ev.Tab
open Go Go.Ev.X Go.Proofs

/-! ### ways -/
inductive Tr (R : Int → Int → Prop) : Int → Int → Prop
  | one {a b : Int} : R a b → Tr R a b
  | step {a b c : Int} : R a b → Tr R b c → Tr R a c
theorem Tr.trans {R : Int → Int → Prop} {a b c : Int} (h : Tr R a b) (h' : Tr R b c) : Tr R a c := by
  induction h with
  | one e => exact .step e h'
  | step e _ ih => exact .step e (ih h')
theorem Tr.snoc {R : Int → Int → Prop} {a b c : Int} (h : Tr R a b) (h' : R b c) : Tr R a c := h.trans (.one h')
theorem Tr.mono {R R' : Int → Int → Prop} (hR : ∀ t u, R t u → R' t u) {a b : Int} (h : Tr R a b) : Tr R' a b := by
  induction h with
  | one e => exact .one (hR _ _ e)
  | step e _ ih => exact .step (hR _ _ e) ih
theorem Tr.thru {R R' : Int → Int → Prop} {x : Int} (hR : ∀ t u, R' t u → R t u ∨ t = x ∨ u = x) {a b : Int} (h : Tr R' a b) : Tr R a b ∨ ((a = x ∨ Tr R' a x) ∧ (x = b ∨ Tr R' x b)) := by
  induction h with
  | @one a b e =>
    rcases hR a b e with h | h | h
    · exact .inl (.one h)
    · exact .inr ⟨.inl h, .inr (h ▸ .one e)⟩
    · exact .inr ⟨.inr (h ▸ .one e), .inl h.symm⟩
  | @step a b c e h' ih =>
    rcases hR a b e with h | h | h
    · rcases ih with ih | ⟨i1, i2⟩
      · exact .inl (.step h ih)
      · refine .inr ⟨.inr ?_, i2⟩
        rcases i1 with rfl | i1
        · exact .one e
        · exact .step e i1
    · exact .inr ⟨.inl h, .inr (h ▸ .step e h')⟩
    · exact .inr ⟨.inr (h ▸ .one e), .inr (h ▸ h')⟩
theorem Tr.first {R : Int → Int → Prop} {a b : Int} (h : Tr R a b) : ∃ c, R a c := by
  cases h with
  | one e => exact ⟨_, e⟩
  | step e _ => exact ⟨_, e⟩
def Acyc (R : Int → Int → Prop) : Prop := ∀ t, ¬ Tr R t t
theorem acyc_thru {R R' : Int → Int → Prop} {x : Int} (hR : ∀ t u, R' t u → R t u ∨ t = x ∨ u = x) (h : Acyc R) (hx : ¬ Tr R' x x) : Acyc R' := by
  intro t ht
  rcases ht.thru hR with h' | ⟨h1, h2⟩
  · exact h t h'
  · rcases h1 with rfl | h1
    · exact hx ht
    · rcases h2 with rfl | h2
      · exact hx ht
      · exact hx (h2.trans h1)

/-! ### who blocks -/
theorem cpT_keeps : ∀ (l : List Int) (x y : Int), y ∈ l → y ∈ cpT x l ∨ y = x
  | [], x, y, h => by simp at h
  | z :: l, x, y, h => by
    rw [cpT]
    cases hz : z == x with
    | true =>
      have hz := eq_of_beq hz
      rcases List.mem_cons.mp h with rfl | h
      · exact .inr hz
      · exact cpT_keeps l x y h
    | false =>
      rcases List.mem_cons.mp h with rfl | h
      · exact .inl (by simp)
      · rcases cpT_keeps l z y h with h | rfl
        · exact .inl (List.mem_cons_of_mem _ h)
        · exact .inl (by simp)
theorem compactF_keeps (l : List Int) (y : Int) (h : y ∈ l) : y ∈ compactF l := by
  cases l with
  | nil => simp at h
  | cons x l =>
    rw [compactF_cpT]
    rcases List.mem_cons.mp h with rfl | h
    · simp
    · rcases cpT_keeps l x y h with h | rfl
      · exact List.mem_cons_of_mem _ h
      · simp
theorem idxP_at {α : Type} {p : α → Bool} : ∀ {l : List α} {n j : Nat}, idxP p l n = some j → n ≤ j ∧ ∃ h : j - n < l.length, p l[j - n] = true
  | [], n, j, h => by simp [idxP] at h
  | y :: l, n, j, h => by
    rw [idxP] at h
    cases hy : p y with
    | true =>
      rw [hy] at h
      cases h
      exact ⟨Nat.le_refl _, by simp, by simpa using hy⟩
    | false =>
      rw [hy, cond_false] at h
      obtain ⟨h1, h2, h3⟩ := idxP_at h
      have e : j - n = (j - (n + 1)) + 1 := by omega
      refine ⟨by omega, by simp only [List.length_cons]; omega, ?_⟩
      simp only [e, List.getElem_cons_succ]
      exact h3
theorem blk_iff (w : GG) (l : List GG) (u : Int) : u ∈ blk w l ↔ ∃ g ∈ l, conflict g w = true ∧ g.1 = u := by
  unfold blk
  simp only [List.mem_map, List.mem_filter, and_assoc]
theorem blkS_iff (xs ws : List GG) (t u : Int) : u ∈ blkS xs ws t ↔ ∃ j, idxP (fun g : GG => g.1 == t) ws 0 = some j ∧ u ∈ blkL xs ws j := by
  unfold blkS
  cases hi : idxP (fun g : GG => g.1 == t) ws 0 with
  | none => simp
  | some j =>
    simp only [Option.some.injEq, exists_eq_left']
    constructor
    · exact fun h => (sortI_perm _).mem_iff.mp (compactF_mem _ _ h)
    · exact fun h => compactF_keeps _ _ ((sortI_perm _).mem_iff.mpr h)
theorem blkS_E {xs ws : List GG} (hn : (ws.map (·.1)).Nodup) (t u : Int) : u ∈ blkS xs ws t ↔ E xs ws t u := by
  rw [blkS_iff]
  constructor
  · rintro ⟨j, hj, hu⟩
    obtain ⟨_, hl, hp⟩ := idxP_at hj
    simp only [Nat.sub_zero, beq_iff_eq] at hl hp
    have e : ws = ws.take j ++ ws[j] :: ws.drop (j + 1) := by rw [← List.drop_eq_getElem_cons hl, List.take_append_drop]
    unfold blkL at hu
    rw [List.mem_append, blk_iff, blk_iff, wOf, getD_nth' ws j _ hl] at hu
    rcases hu with ⟨g, hg, h1, h2⟩ | ⟨g, hg, h1, h2⟩
    · exact ⟨_, _, _, g, e, hp, .inl hg, h1, h2⟩
    · exact ⟨_, _, _, g, e, hp, .inr hg, h1, h2⟩
  · rintro ⟨l, w, r, g, rfl, rfl, hg, hcf, rfl⟩
    cases hi : idxP (fun g : GG => g.1 == w.1) (l ++ w :: r) 0 with
    | none =>
      have := idxP_no hi w (by simp)
      simp at this
    | some j =>
      obtain ⟨_, hl, hp⟩ := idxP_at hi
      simp only [Nat.sub_zero, beq_iff_eq] at hl hp
      have hj : j = l.length := by
        have hlen : l.length < (l ++ w :: r).length := by simp
        have hw : (l ++ w :: r)[l.length] = w := by simp
        have hpw := List.pairwise_iff_getElem.mp hn
        rcases Nat.lt_trichotomy j l.length with h | h | h
        · have := hpw j l.length (by rw [List.length_map]; exact hl) (by rw [List.length_map]; exact hlen) h
          rw [List.getElem_map, List.getElem_map, hw] at this
          exact absurd hp this
        · exact h
        · have := hpw l.length j (by rw [List.length_map]; exact hlen) (by rw [List.length_map]; exact hl) h
          rw [List.getElem_map, List.getElem_map, hw] at this
          exact absurd hp.symm this
      subst hj
      refine ⟨_, rfl, ?_⟩
      unfold blkL
      rw [List.mem_append, blk_iff, blk_iff, wOf, getD_nth' _ _ _ hl, List.getElem_append_right (Nat.le_refl _), List.take_left]
      simp only [Nat.sub_self, List.getElem_cons_zero]
      exact hg.imp (fun h => ⟨g, h, hcf, rfl⟩) fun h => ⟨g, h, hcf, rfl⟩

/-! ### the search -/
abbrev Rb (xs ws : List GG) (t u : Int) : Prop := u ∈ blkS xs ws t
theorem lastI_snoc (p : List Int) (n : Int) : lastI (p ++ [n]) = n := by
  unfold lastI
  simp
theorem stepIn_q {P : List Int → Prop} (path : List Int) : ∀ (next ks : List Int) (q : List (List Int)), (∀ n ∈ next, P (path ++ [n])) → (∀ p ∈ q, P p) → ∀ p ∈ (stepIn path next ks q).2, P p
  | [], ks, q, _, hq => hq
  | n :: r, ks, q, hn, hq => by
    rw [stepIn]
    cases ks.any (fun k => n == k) with
    | true => exact stepIn_q path r ks q (fun m hm => hn m (by simp [hm])) hq
    | false =>
      refine stepIn_q path r _ _ (fun m hm => hn m (by simp [hm])) fun p hp => ?_
      rcases List.mem_append.mp hp with hp | hp
      · exact hq p hp
      · rw [List.mem_singleton.mp hp]
        exact hn n (by simp)
theorem stepIn_keeps (path : List Int) : ∀ (next ks : List Int) (q : List (List Int)), (∀ k ∈ ks, k ∈ (stepIn path next ks q).1) ∧ (∀ p ∈ q, p ∈ (stepIn path next ks q).2) ∧ (∀ n ∈ next, n ∈ (stepIn path next ks q).1)
    ∧ ∀ k ∈ (stepIn path next ks q).1, k ∈ ks ∨ ∃ p ∈ (stepIn path next ks q).2, lastI p = k
  | [], ks, q => ⟨fun k h => h, fun p h => h, fun n h => by simp at h, fun k h => .inl h⟩
  | n :: r, ks, q => by
    rw [stepIn]
    cases hc : ks.any (fun k => n == k) with
    | true =>
      obtain ⟨a, b, c, d⟩ := stepIn_keeps path r ks q
      refine ⟨a, b, fun m hm => ?_, d⟩
      rcases List.mem_cons.mp hm with rfl | hm
      · obtain ⟨k, hk, e⟩ := List.any_eq_true.mp hc
        rw [eq_of_beq e]
        exact a k hk
      · exact c m hm
    | false =>
      obtain ⟨a, b, c, d⟩ := stepIn_keeps path r (ks ++ [n]) (q ++ [path ++ [n]])
      rw [cond_false]
      refine ⟨fun k hk => a k (List.mem_append_left _ hk), fun p hp => b p (List.mem_append_left _ hp), fun m hm => ?_, fun k hk => ?_⟩
      · rcases List.mem_cons.mp hm with rfl | hm
        · exact a _ (by simp)
        · exact c m hm
      · rcases d k hk with h | h
        · rcases List.mem_append.mp h with h | h
          · exact .inl h
          · rw [List.mem_singleton.mp h]
            exact .inr ⟨path ++ [n], b _ (by simp), lastI_snoc _ _⟩
        · exact .inr h
theorem bfs_sound (xs ws : List GG) (tx : Int) {p : List Int} : ∀ (n : Nat) (ks : List Int) (q : List (List Int)), (∀ p ∈ q, p ≠ [] ∧ (lastI p = tx ∨ Tr (Rb xs ws) tx (lastI p))) → bfs xs ws tx n ks q = some p → p ≠ [] ∧ Tr (Rb xs ws) tx tx
  | 0, ks, q, _, h => by rw [bfs] at h; cases h
  | n + 1, ks, [], _, h => by rw [bfs] at h; cases h
  | n + 1, ks, p' :: q, hq, h => by
    rw [bfs] at h
    obtain ⟨h1, h2⟩ := hq p' (by simp)
    cases hc : (blkS xs ws (lastI p')).any (fun x => tx == x) with
    | true =>
      rw [hc] at h
      cases h
      obtain ⟨x, hx, e⟩ := List.any_eq_true.mp hc
      obtain rfl := eq_of_beq e
      refine ⟨h1, ?_⟩
      rcases h2 with h2 | h2
      · rw [h2] at hx; exact .one hx
      · exact h2.snoc hx
    | false =>
      rw [hc, cond_false] at h
      refine bfs_sound xs ws tx n _ _ (stepIn_q (P := fun p => p ≠ [] ∧ (lastI p = tx ∨ Tr (Rb xs ws) tx (lastI p))) p' _ _ _ (fun m hm => ⟨by simp, .inr ?_⟩) fun p hp => hq p (by simp [hp])) h
      rw [lastI_snoc]
      rcases h2 with h2 | h2
      · rw [h2] at hm; exact .one hm
      · exact h2.snoc hm
theorem bfs_none (xs ws : List GG) (tx : Int) : ∀ (m : Nat) (ks : List Int) (q : List (List Int)), far (allTx xs ws) ks q < m → Inv (allTx xs ws) ks q → tx ∈ ks →
    (∀ k ∈ ks, (∃ p ∈ q, lastI p = k) ∨ (¬ Rb xs ws k tx ∧ ∀ s, Rb xs ws k s → s ∈ ks)) → bfsF xs ws tx ks q = none → ∃ K : List Int, tx ∈ K ∧ ∀ k ∈ K, ¬ Rb xs ws k tx ∧ ∀ s, Rb xs ws k s → s ∈ K
  | 0, ks, q, h, _, _, _, _ => absurd h (by omega)
  | m + 1, ks, [], hm, hI, ht, hC, h => ⟨ks, ht, fun k hk => (hC k hk).resolve_left fun ⟨p, hp, _⟩ => by simp at hp⟩
  | m + 1, ks, p :: q, hm, hI, ht, hC, h => by
    rw [bfsF_cons xs ws tx ks p q hI] at h
    cases hc : (blkS xs ws (lastI p)).any (fun x => tx == x) with
    | true => rw [hc] at h; cases h
    | false =>
      rw [hc, cond_false] at h
      obtain ⟨hp1, hp2⟩ := hI.hp p (by simp)
      have hI' : Inv (allTx xs ws) ks q := ⟨by have := hI.hq; simp at this; omega, hI.hk, fun p' h => hI.hp p' (by simp [h])⟩
      obtain ⟨a, b, _⟩ := stepIn_inv (next := blkS xs ws (lastI p)) hp1 (fun n hn => blkS_mem xs ws _ n hn) hI' hp2
      have hfar : far (allTx xs ws) ks q + 1 = far (allTx xs ws) ks (p :: q) := by unfold far; simp; omega
      obtain ⟨s1, s2, s3, s4⟩ := stepIn_keeps p (blkS xs ws (lastI p)) ks q
      refine bfs_none xs ws tx m _ _ (by omega) a (s1 tx ht) (fun k hk => ?_) h
      rcases s4 k hk with hk | hk
      · rcases hC k hk with ⟨p', hp', e⟩ | ⟨c1, c2⟩
        · rcases List.mem_cons.mp hp' with rfl | hp'
          · rw [← e]
            refine .inr ⟨fun hR => ?_, fun s hs => s3 s hs⟩
            have := List.any_eq_false.mp hc _ hR
            simp at this
          · exact .inl ⟨p', s2 p' hp', e⟩
        · exact .inr ⟨c1, fun s hs => s1 s (c2 s hs)⟩
      · exact .inl hk
theorem closed_no {R : Int → Int → Prop} {K : List Int} {tx : Int} (hK : ∀ k ∈ K, ¬ R k tx ∧ ∀ s, R k s → s ∈ K) {a b : Int} (h : Tr R a b) (ha : a ∈ K) : b ≠ tx := by
  induction h with
  | @one a b e => exact fun hb => (hK a ha).1 (hb ▸ e)
  | @step a b c e _ ih => exact ih ((hK a ha).2 b e)
/-- The search finds a circle if and only if there is one. -/
theorem cyc_iff {xs ws : List GG} (h : tabOk xs ws = true) (tx : Int) : cycF xs ws tx = [] ↔ ¬ Tr (Rb xs ws) tx tx := by
  unfold cycF
  rw [h, cond_true]
  cases hb : bfsF xs ws tx [tx] [[tx]] with
  | some p =>
    obtain ⟨h1, h2⟩ := bfs_sound xs ws tx _ _ _ (fun p hp => by rw [List.mem_singleton.mp hp]; exact ⟨by simp, .inl rfl⟩) hb
    simp only [h1, false_iff, Classical.not_not]
    exact h2
  | none =>
    obtain ⟨K, h1, h2⟩ := bfs_none xs ws tx _ _ _ (Nat.lt_succ_self _) (inv0 xs ws tx) (by simp) (fun k hk => .inl ⟨[tx], by simp, by rw [List.mem_singleton.mp hk]; rfl⟩) hb
    simp only [true_iff]
    exact fun hT => closed_no h2 hT h1 rfl
theorem tr_E {xs ws : List GG} (h : TabI xs ws) {a b : Int} : Tr (Rb xs ws) a b ↔ Tr (E xs ws) a b := ⟨Tr.mono fun t u => (blkS_E h.wn t u).mp, Tr.mono fun t u => (blkS_E h.wn t u).mpr⟩

/-! ### few transactions -/
def InR (xs ws : List GG) : Prop := ∀ x, (x ∈ xs ∨ x ∈ ws) → 1 ≤ x.1 ∧ x.1 ≤ 5
theorem nodup_len : ∀ (c U : List Int), c.Nodup → (∀ x ∈ c, x ∈ U) → c.length ≤ U.length
  | [], U, _, _ => Nat.zero_le _
  | x :: c, U, hn, hc => by
    obtain ⟨h1, h2⟩ := List.nodup_cons.mp hn
    have := nodup_len c (U.erase x) h2 fun y hy => (List.mem_erase_of_ne (fun e : y = x => h1 (by rw [← e]; exact hy))).mpr (hc y (by simp [hy]))
    rw [List.length_erase_of_mem (hc x (by simp))] at this
    have : 0 < U.length := List.length_pos_of_mem (hc x (by simp))
    simp only [List.length_cons]
    omega
theorem in5 {x : Int} (h : 1 ≤ x ∧ x ≤ 5) : x ∈ ([1, 2, 3, 4, 5] : List Int) := by
  have : x = 1 ∨ x = 2 ∨ x = 3 ∨ x = 4 ∨ x = 5 := by omega
  rcases this with rfl | rfl | rfl | rfl | rfl <;> decide
theorem few_ok {xs ws : List GG} (h : TabI xs ws) (hr : InR xs ws) (t : Int) : blkFew xs ws t = true := by
  unfold blkFew
  split
  · rfl
  · rename_i j hj
    refine decide_eq_true ?_
    unfold blkL
    have h1 : (blk (wOf ws j) xs).length ≤ 5 := by
      refine nodup_len _ [1, 2, 3, 4, 5] ?_ fun x hx => ?_
      · unfold blk
        refine List.pairwise_map.mpr (List.pairwise_filter.mpr (h.hs.imp ?_))
        intro a b hlt ha hb e
        obtain ⟨_, a2, _⟩ := (conflict_iff _ _).mp ha
        obtain ⟨_, b2, _⟩ := (conflict_iff _ _).mp hb
        unfold Lt at hlt
        omega
      · obtain ⟨g, hg, _, rfl⟩ := (blk_iff _ _ _).mp hx
        exact in5 (hr g (.inl hg))
    have h2 : (blk (wOf ws j) (ws.take j)).length ≤ 5 := by
      refine nodup_len _ [1, 2, 3, 4, 5] ?_ fun x hx => ?_
      · unfold blk
        exact h.wn.sublist ((List.filter_sublist.trans (List.take_sublist _ _)).map _)
      · obtain ⟨g, hg, _, rfl⟩ := (blk_iff _ _ _).mp hx
        exact in5 (hr g (.inr (List.mem_of_mem_take hg)))
    rw [List.length_append]
    omega

/-! ### what the law keeps -/
structure Good (xs ws : List GG) : Prop where
  tab : TabI xs ws
  inr : InR xs ws
  acy : Acyc (E xs ws)
theorem good0 : Good [] [] := ⟨⟨by simp, by simp, List.Pairwise.nil, by simp, by simp, by simp, List.Pairwise.nil⟩, fun x h => by simp at h, fun t h => by
  obtain ⟨c, l, w, r, g, e, _⟩ := h.first
  simp at e⟩
theorem Good.red {xs ws xs' ws' : List GG} (h : Good xs ws) (hr : Red xs ws xs' ws') : Good xs' ws' := ⟨hr.tab, fun x hx => h.inr x (hr.mem x hx), fun t ht => h.acy t (ht.mono hr.edge)⟩
theorem Good.cyc {xs ws : List GG} (h : Good xs ws) (tx : Int) : cycF xs ws tx = [] := (cyc_iff (tabOk_of h.tab) tx).mpr fun ht => h.acy tx ((tr_E h.tab).mp ht)
theorem req_mid {xs ws xs' ws' : List GG} {g : GG} {b : Bool} (h : Good xs ws) (hg : 1 ≤ g.1 ∧ g.1 ≤ 5) (hq : reqF xs ws g = .ok xs' ws' b) : TabI xs' ws' ∧ InR xs' ws' := by
  obtain ⟨h1, h2, h3⟩ := req_inv h.tab hq
  exact ⟨h1, fun x hx => (h3 x hx).elim (h.inr x) fun e => e ▸ hg⟩
theorem req_good {xs ws xs' ws' : List GG} {g : GG} {b : Bool} (h : Good xs ws) (hg : 1 ≤ g.1 ∧ g.1 ≤ 5) (hq : reqF xs ws g = .ok xs' ws' b) (hc : cycF xs' ws' g.1 = []) : Good xs' ws' := by
  obtain ⟨h1, h2, h3⟩ := req_inv h.tab hq
  exact ⟨h1, (req_mid h hg hq).2, acyc_thru h2 h.acy fun ht => (cyc_iff (tabOk_of h1) g.1).mp hc ((tr_E h1).mpr ht)⟩
theorem req_cancel {xs ws xs' ws' : List GG} {g : GG} {b : Bool} (h : Good xs ws) (hg : 1 ≤ g.1 ∧ g.1 ≤ 5) (hq : reqF xs ws g = .ok xs' ws' b) : Good (cancelF xs' ws' g.1).1 (cancelF xs' ws' g.1).2 := by
  obtain ⟨h1, h2, h3⟩ := req_inv h.tab hq
  have hr := red_cancel g.1 h1
  refine ⟨hr.tab, fun x hx => (req_mid h hg hq).2 x (hr.mem x hx), ?_⟩
  have hf := red_wfilter (fun y => !(y.1 == g.1)) h1
  have hs := red_settle hf.tab
  have he : ∀ t u, E (cancelF xs' ws' g.1).1 (cancelF xs' ws' g.1).2 t u → E xs' (notTx g.1 ws') t u := by
    unfold cancelF
    rw [tabOk_of h1, cond_true]
    exact hs.edge
  have hne : ∀ t u, E xs' (notTx g.1 ws') t u → t ≠ g.1 := by
    rintro t u ⟨l, w, r, k, e, ht, _⟩ rfl
    have : w ∈ notTx g.1 ws' := by rw [e]; simp
    unfold notTx at this
    have := (List.mem_filter.mp this).2
    rw [ht] at this
    simp at this
  refine acyc_thru (fun t u e => h2 t u (hf.edge t u (he t u e))) h.acy fun ht => ?_
  obtain ⟨c, hc⟩ := ht.first
  exact hne _ _ (he _ _ hc) rfl
/-- Who follows the last of those he waits for comes to an end. -/
theorem chain_end {xs ws : List GG} (h : Good xs ws) {c : List Int} {t : Int} (h1 : c.Nodup) (h2 : ∀ y ∈ c, y ∈ ([1, 2, 3, 4, 5] : List Int) ∧ Tr (E xs ws) y t) (h3 : c.length = 5) (ht : t ∈ ([1, 2, 3, 4, 5] : List Int)) : False := by
  have hn : (t :: c).Nodup := List.nodup_cons.mpr ⟨fun hm => h.acy t (h2 t hm).2, h1⟩
  have := nodup_len (t :: c) [1, 2, 3, 4, 5] hn fun x hx => by
    rcases List.mem_cons.mp hx with rfl | hx
    · exact ht
    · exact (h2 x hx).1
  simp only [List.length_cons, List.length_nil] at this
  omega
end Go.Ev.Tab

/- The reference of the table of locks: contracts. Own work. -/
set_option maxRecDepth 100000
set_option maxHeartbeats 1000000
set_option linter.unusedVariables false
set_option linter.unusedSimpArgs false
namespace Go.Ev.Tab
open Go Go.Ev.X Go.Proofs

theorem rgrant_ok : COK Try.prog 36 pValid := by
  refine ans_cok (fn_ok (x := fx36) (H := []) (L := []) rfl rfl trivial (by kernel_rfl) trivial) ?_
  rintro ⟨⟨tx, ⟨pg, sl⟩, md⟩, u⟩ k hb
  clear hb
  conv => lhs; whnf
  repeat' (split <;> (conv => lhs; whnf))
  all_goals exact kbool (by rw [Bool.eq_iff_iff]; simp_all [valid]; try omega)
theorem rconflict_ok : COK Try.prog 38 pConflict := by
  refine ans_cok (fn_ok (x := fx38) (H := []) (L := []) rfl rfl trivial (by kernel_rfl) trivial) ?_
  rintro ⟨a, b, u⟩ k hb
  clear hb
  conv => lhs; whnf
  repeat' (split <;> (conv => lhs; whnf))
  all_goals exact kbool (by rw [Bool.eq_iff_iff]; simp_all [conflict, beq_pair, beq_int])
def lessB (a b : GG) : Bool := bif a.2.1.1 == b.2.1.1 then (bif a.2.1.2 == b.2.1.2 then decide (a.1 < b.1) else decide (a.2.1.2 < b.2.1.2)) else decide (a.2.1.1 < b.2.1.1)
theorem lessB_iff (a b : GG) : lessB a b = true ↔ Lt a b := by
  unfold lessB Lt
  cases h1 : a.2.1.1 == b.2.1.1 <;> cases h2 : a.2.1.2 == b.2.1.2 <;> simp at h1 h2 <;> simp <;> omega
def pLessR := ansP [G, G] fun x => .one (.bool (lessB x.1 x.2.1))
theorem rless_ok : COK Try.prog 37 pLessR := by
  refine ans_cok (fn_ok (x := fx37) (H := []) (L := []) rfl rfl trivial (by kernel_rfl) trivial) ?_
  rintro ⟨a, b, u⟩ k hb
  clear hb
  conv => lhs; whnf
  repeat' (split <;> (conv => lhs; whnf))
  all_goals exact kbool (by rw [Bool.eq_iff_iff]; simp_all [lessB])

/-! ### the mode that is held -/
def qMo (t p s : Int) (g : GG) : Bool := g.1 == t && (g.2.1.1 == p && g.2.1.2 == s)
def modeR (xs : List GG) (t p s : Int) : Int := match idxP (qMo t p s) xs 0 with | some j => (xs.getD j g0).2.2 | none => 0
noncomputable def moL (xs ws : List GG) (t p s : Int) := loopP (α := Nat) (fun i => [.one (.int .i64 t), sP 100000000, sP 100000001, .one (.int .i64 i)])
  (fun _ => [(100000000, .box false [.sl G xs none none, .sl G ws none none]), (100000001, .box false [.int .i64 p, .int .i64 s])]) (fun _ => xs.length ≤ 1048576)
  (fun i K => match idxP (qMo t p s) (xs.drop i) i with | some j => K.ret [.one (.int .i64 (xs.getD j g0).2.2)] [] | none => K.exit 0 [] [])
theorem moL_inj {t : Int} (i j : Nat) (h : [AV.one (.int .i64 t), sP 100000000, sP 100000001, .one (.int .i64 i)] = [.one (.int .i64 t), sP 100000000, sP 100000001, .one (.int .i64 j)]) : i = j := by
  simp only [List.cons.injEq] at h
  exact int_last h.2.2.2.1
theorem moL_ok (xs ws : List GG) (t p s : Int) : LoopOK (rc [] [(2, moL xs ws t p s)] fx39) (loopB 2 (codeOf fx39)) (moL xs ws t p s) := by
  refine loopP_ok (fun x y h _ => moL_inj x y h) (fun i => xs.length - i) ?_
  intro i K r N hb hN hf
  try dsimp only at hb
  try dsimp only at hN
  try dsimp only at hf
  rcases Nat.lt_or_ge i xs.length with h | h
  · obtain ⟨⟨a, ⟨b, c⟩, d⟩, ha⟩ : ∃ g, xs[i] = g := ⟨_, rfl⟩
    rw [drop_nth xs i h, idxP, ha] at hf
    cases hc : qMo t p s (a, (b, c), d) with
    | true =>
      rw [hc, cond_true] at hf
      dsimp only at hf
      simp only [qMo, Bool.and_eq_true, beq_iff_eq] at hc
      obtain ⟨rfl, rfl, rfl⟩ := hc
      conv => lhs; whnf
      repeat' ((first | split | ((conv => lhs; arg 3; whnf); split)) <;> first | (exfalso; rename_i hx; first | (simp (disch := omega) [leavesIds, V.leaves, Leaf.ids, mem?, nbeq, Ty.width, wrap_id, View.lenN, View.off, View.len_eq, sees_tail, sees_sub, rec_k, tn1, tn2, tn3, tn4, tn5, tn6, ha, beq_pair, beq_int] at hx; done) | (simp (disch := omega) [leavesIds, V.leaves, Leaf.ids, mem?, nbeq, Ty.width, wrap_id, View.lenN, View.off, View.len_eq, sees_tail, sees_sub, rec_k, tn1, tn2, tn3, tn4, tn5, tn6, ha, beq_pair, beq_int] at hx; omega) | (refine absurd (hx.symm.trans ?_) Bool.false_ne_true; (try simp only [Bool.and_eq_true, decide_eq_true_eq]); (try simp (disch := omega) [leavesIds, V.leaves, Leaf.ids, mem?, nbeq, Ty.width, wrap_id, View.lenN, View.off, View.len_eq, sees_tail, sees_sub, rec_k, tn1, tn2, tn3, tn4, tn5, tn6, ha, beq_pair, beq_int]); (try omega); done) | omega) | (rename_i he; cases he; conv => lhs; whnf) | (conv => lhs; whnf))
      exact hf
    | false =>
      rw [hc, cond_false] at hf
      have hN' := hN (i + 1) hb (by omega)
      unfold qMo at hc
      cases h1 : a == t with
      | false =>
        conv => lhs; whnf
        repeat' ((first | split | ((conv => lhs; arg 3; whnf); split)) <;> first | (exfalso; rename_i hx; first | (simp (disch := omega) [leavesIds, V.leaves, Leaf.ids, mem?, nbeq, Ty.width, wrap_id, View.lenN, View.off, View.len_eq, sees_tail, sees_sub, rec_k, tn1, tn2, tn3, tn4, tn5, tn6, ha, h1] at hx; done) | (simp (disch := omega) [leavesIds, V.leaves, Leaf.ids, mem?, nbeq, Ty.width, wrap_id, View.lenN, View.off, View.len_eq, sees_tail, sees_sub, rec_k, tn1, tn2, tn3, tn4, tn5, tn6, ha, h1] at hx; omega) | (refine absurd (hx.symm.trans ?_) Bool.false_ne_true; (try simp only [Bool.and_eq_true, decide_eq_true_eq]); (try simp (disch := omega) [leavesIds, V.leaves, Leaf.ids, mem?, nbeq, Ty.width, wrap_id, View.lenN, View.off, View.len_eq, sees_tail, sees_sub, rec_k, tn1, tn2, tn3, tn4, tn5, tn6, ha, h1]); (try omega); done) | omega) | (rename_i he; cases he; conv => lhs; whnf) | (conv => lhs; whnf))
        rewrite [succ_w (by omega)]
        exact hN'.trans hf
      | true =>
        rw [h1, Bool.true_and] at hc
        conv => lhs; whnf
        repeat' ((first | split | ((conv => lhs; arg 3; whnf); split)) <;> first | (exfalso; rename_i hx; first | (simp (disch := omega) [leavesIds, V.leaves, Leaf.ids, mem?, nbeq, Ty.width, wrap_id, View.lenN, View.off, View.len_eq, sees_tail, sees_sub, rec_k, tn1, tn2, tn3, tn4, tn5, tn6, ha, h1, beq_pair, beq_int, hc] at hx; done) | (simp (disch := omega) [leavesIds, V.leaves, Leaf.ids, mem?, nbeq, Ty.width, wrap_id, View.lenN, View.off, View.len_eq, sees_tail, sees_sub, rec_k, tn1, tn2, tn3, tn4, tn5, tn6, ha, h1, beq_pair, beq_int, hc] at hx; omega) | (refine absurd (hx.symm.trans ?_) Bool.false_ne_true; (try simp only [Bool.and_eq_true, decide_eq_true_eq]); (try simp (disch := omega) [leavesIds, V.leaves, Leaf.ids, mem?, nbeq, Ty.width, wrap_id, View.lenN, View.off, View.len_eq, sees_tail, sees_sub, rec_k, tn1, tn2, tn3, tn4, tn5, tn6, ha, h1, beq_pair, beq_int, hc]); (try omega); done) | omega) | (rename_i he; cases he; conv => lhs; whnf) | (conv => lhs; whnf))
        rewrite [succ_w (by omega)]
        exact hN'.trans hf
  · rw [List.drop_eq_nil_of_le h, idxP] at hf
    conv => lhs; whnf
    (split <;> first | (exfalso; rename_i hx; first | (simp (disch := omega) [leavesIds, V.leaves, Leaf.ids, mem?, nbeq, Ty.width, wrap_id, View.lenN, View.off, View.len_eq, sees_tail, sees_sub, rec_k, tn1, tn2, tn3, tn4, tn5, tn6] at hx; done) | (simp (disch := omega) [leavesIds, V.leaves, Leaf.ids, mem?, nbeq, Ty.width, wrap_id, View.lenN, View.off, View.len_eq, sees_tail, sees_sub, rec_k, tn1, tn2, tn3, tn4, tn5, tn6] at hx; omega) | (refine absurd (hx.symm.trans ?_) Bool.false_ne_true; (try simp only [Bool.and_eq_true, decide_eq_true_eq]); (try simp (disch := omega) [leavesIds, V.leaves, Leaf.ids, mem?, nbeq, Ty.width, wrap_id, View.lenN, View.off, View.len_eq, sees_tail, sees_sub, rec_k, tn1, tn2, tn3, tn4, tn5, tn6]); (try omega); done) | omega) | (conv => lhs; whnf))
    exact hf
def pModeR := pureP [TB, I, LK] fun x k => gd (decide (x.1.1.length ≤ 1048576)) (k (.one (.int .i64 (modeR x.1.1 x.2.1 x.2.2.1.1 x.2.2.1.2))) [])
theorem rmode_ok : COK Try.prog 39 pModeR := by
  refine pure_cokD fun ⟨⟨xs, ws⟩, t, ⟨p, s⟩, u⟩ hb => ?_
  refine ⟨_, fn_ok (x := fx39) (H := []) (L := [(2, moL xs ws t p s)]) rfl rfl trivial (by kernel_rfl) ⟨moL_ok xs ws t p s, trivial⟩, fun k r h => ?_⟩
  obtain ⟨h1, h⟩ := gd_some.mp h
  simp only [decide_eq_true_eq] at h1
  replace h1 : List.length xs ≤ 1048576 := h1
  dsimp only at h
  conv => lhs; whnf
  refine (loopP_eq (fun x y h _ => moL_inj x y h) (x := 0) h1 _).trans ?_
  dsimp only
  rw [List.drop_zero]
  unfold modeR at h
  cases hi : idxP (qMo t p s) xs 0 with
  | none =>
    rw [hi] at h
    conv => lhs; whnf
    exact h
  | some j =>
    rw [hi] at h
    conv => lhs; whnf
    exact h
theorem modeR_eq {xs : List GG} (hs : Sorted xs) (t p s : Int) : modeR xs t p s = modeI xs t (p, s) := by
  unfold modeR
  cases hi : idxP (qMo t p s) xs 0 with
  | none =>
    refine (modeI_none fun x hx hsm => ?_).symm
    have := idxP_no hi x hx
    obtain ⟨h1, h2, h3⟩ := hsm
    simp only [qMo] at this
    simp only at h1 h2 h3
    simp [h1, h2, h3] at this
  | some j =>
    obtain ⟨_, hl, hp⟩ := idxP_at hi
    simp only [Nat.sub_zero, qMo, Bool.and_eq_true, beq_iff_eq] at hl hp
    dsimp only
    rw [getD_nth' xs j _ hl]
    exact (modeI_of hs (List.getElem_mem hl) ⟨hp.2.1, hp.2.2, hp.1⟩).symm
end Go.Ev.Tab

/- The reference's whole table: contract. Own work. -/
set_option maxRecDepth 100000
set_option maxHeartbeats 1000000
set_option linter.unusedVariables false
set_option linter.unusedSimpArgs false
namespace Go.Ev.Tab
open Go Go.Ev.X Go.Proofs

abbrev rvM (xs ws : List GG) : Mem := [(100000000, .box false [.sl G xs none none, .sl G ws none none])]
abbrev rvM2 (xs ws : List GG) (g : GG) : Mem := [(100000000, .box false [.sl G xs none none, .sl G ws none none]), (100000001, .box false (gLeaves g))]
noncomputable def rv4 (xs ws : List GG) := loopP (α := Nat) (fun i => [sP 100000000, .one (.int .i64 i)]) (fun _ => rvM xs ws) (fun _ => True) (fun i K => K.exit 0 [sP 100000000] (rvM xs ws))
noncomputable def rv9 (xs ws : List GG) := loopP (α := Nat × Nat) (fun x => [sP 100000000, .one (.int .i64 x.1), .one (.int .i64 ((x.2 : Int) - 1))]) (fun _ => rvM xs ws) (fun x => x.1 < xs.length ∧ x.2 ≤ x.1) (fun x K => K.exit 2 [sP 100000000, .one (.int .i64 x.1)] (rvM xs ws))
noncomputable def rv14 (xs ws : List GG) := loopP (α := Nat) (fun i => [sP 100000000, .one (.int .i64 i)]) (fun _ => rvM xs ws) (fun _ => True) (fun i K => K.exit 4 [] [])
noncomputable def rv20 (xs ws : List GG) := loopP (α := Nat × Nat) (fun x => [sP 100000000, .one (.int .i64 x.1), sP 100000001, .one (.int .i64 x.2)]) (fun x => rvM2 xs ws (ws.getD x.1 g0)) (fun x => x.1 < ws.length) (fun x K => K.exit 6 [sP 100000000, .one (.int .i64 x.1)] (rvM xs ws))
theorem rv4_inj (i j : Nat) (h : [sP 100000000, AV.one (.int .i64 i)] = [sP 100000000, .one (.int .i64 j)]) : i = j := by
  simp only [List.cons.injEq] at h
  exact int_last h.2.1
theorem rv9_inj (x y : Nat × Nat) (h : [sP 100000000, AV.one (.int .i64 x.1), .one (.int .i64 ((x.2 : Int) - 1))] = [sP 100000000, .one (.int .i64 y.1), .one (.int .i64 ((y.2 : Int) - 1))]) : x = y := by
  simp only [List.cons.injEq] at h
  have h1 := int_last h.2.1
  have h2 := av_int_inj h.2.2.1
  exact Prod.ext h1 (by omega)
theorem rv20_inj (x y : Nat × Nat) (h : [sP 100000000, AV.one (.int .i64 x.1), sP 100000001, .one (.int .i64 x.2)] = [sP 100000000, AV.one (.int .i64 y.1), sP 100000001, .one (.int .i64 y.2)]) : x = y := by
  simp only [List.cons.injEq] at h
  exact Prod.ext (int_last h.2.1) (int_last h.2.2.2.1)
noncomputable abbrev rvH : List (Nat × (List AV → Mem → AK → R)) := [(36, pValid), (37, pLessR), (38, pConflict), (39, pModeR)]
noncomputable abbrev rvC (xs ws : List GG) := rc rvH [(9, rv9 xs ws), (4, rv4 xs ws), (20, rv20 xs ws), (14, rv14 xs ws)] fx17
theorem rv9_ok {xs ws : List GG} (hT : TabI xs ws) : LoopOK (rvC xs ws) (loopB 9 (codeOf fx17)) (rv9 xs ws) := by
  refine loopP_ok (fun x y h _ => rv9_inj x y h) (fun x => x.2) ?_
  rintro ⟨i, j⟩ K r N ⟨hi, hj⟩ hN hf
  try dsimp only at hi
  try dsimp only at hj
  try dsimp only at hN
  try dsimp only at hf
  have hlen := hT.len
  dsimp only
  cases j with
  | zero =>
    conv => lhs; whnf
    repeat' ((first | split | ((conv => lhs; arg 3; whnf); split)) <;> first | (exfalso; rename_i hx; first | (simp (disch := omega) [leavesIds, V.leaves, Leaf.ids, mem?, nbeq, Ty.width, wrap_id, View.lenN, View.off, View.len_eq, sees_tail, sees_sub, rec_k, tn1, tn2, tn3, tn4, tn5, tn6] at hx; done) | (simp (disch := omega) [leavesIds, V.leaves, Leaf.ids, mem?, nbeq, Ty.width, wrap_id, View.lenN, View.off, View.len_eq, sees_tail, sees_sub, rec_k, tn1, tn2, tn3, tn4, tn5, tn6] at hx; omega) | (refine absurd (hx.symm.trans ?_) Bool.false_ne_true; (try simp only [Bool.and_eq_true, decide_eq_true_eq]); (try simp (disch := omega) [leavesIds, V.leaves, Leaf.ids, mem?, nbeq, Ty.width, wrap_id, View.lenN, View.off, View.len_eq, sees_tail, sees_sub, rec_k, tn1, tn2, tn3, tn4, tn5, tn6]); (try omega); done) | omega) | (rename_i he; cases he; conv => lhs; whnf) | (conv => lhs; whnf))
    exact hf
  | succ j =>
    have hj' : j < xs.length := by omega
    have hc := hT.hc xs[j] (List.getElem_mem _) xs[i] (List.getElem_mem _)
    obtain ⟨⟨a, ⟨b, c⟩, d⟩, ha⟩ : ∃ g, xs[i] = g := ⟨_, rfl⟩
    obtain ⟨⟨a', ⟨b', c'⟩, d'⟩, ha'⟩ : ∃ g, xs[j] = g := ⟨_, rfl⟩
    rw [ha, ha'] at hc
    rw [show (((j + 1 : Nat) : Int) - 1) = (j : Nat) by omega]
    conv => lhs; whnf
    repeat' ((first | split | ((conv => lhs; arg 3; whnf); split)) <;> first | (exfalso; rename_i hx; first | (simp (disch := omega) [leavesIds, V.leaves, Leaf.ids, mem?, nbeq, Ty.width, wrap_id, View.lenN, View.off, View.len_eq, sees_tail, sees_sub, rec_k, tn1, tn2, tn3, tn4, tn5, tn6, ha, ha', hc] at hx; done) | (simp (disch := omega) [leavesIds, V.leaves, Leaf.ids, mem?, nbeq, Ty.width, wrap_id, View.lenN, View.off, View.len_eq, sees_tail, sees_sub, rec_k, tn1, tn2, tn3, tn4, tn5, tn6, ha, ha', hc] at hx; omega) | (refine absurd (hx.symm.trans ?_) Bool.false_ne_true; (try simp only [Bool.and_eq_true, decide_eq_true_eq]); (try simp (disch := omega) [leavesIds, V.leaves, Leaf.ids, mem?, nbeq, Ty.width, wrap_id, View.lenN, View.off, View.len_eq, sees_tail, sees_sub, rec_k, tn1, tn2, tn3, tn4, tn5, tn6, ha, ha', hc]); (try omega); done) | omega) | (rename_i he; cases he; conv => lhs; whnf) | (conv => lhs; whnf))
    all_goals first | exact hf | skip
    rewrite [show IntKind.i64.wrap ((j : Int) - 1) = (j : Int) - 1 from wrap_id (by omega) (by omega)]
    exact (hN (i, j) ⟨hi, by simp only; omega⟩ (by simp only; omega)).trans hf
theorem rv4_ok {xs ws : List GG} (hT : TabI xs ws) : LoopOK (rvC xs ws) (loopB 4 (codeOf fx17)) (rv4 xs ws) := by
  refine loopP_ok (fun x y h _ => rv4_inj x y h) (fun i => xs.length - i) ?_
  intro i K r N _ hN hf
  try dsimp only at hN
  try dsimp only at hf
  have hlen := hT.len
  rcases Nat.lt_or_ge i xs.length with h | h
  · have hv := hT.hv xs[i] (List.getElem_mem _)
    have hN' := hN (i + 1) trivial (by omega)
    obtain ⟨⟨a, ⟨b, c⟩, d⟩, ha⟩ : ∃ g, xs[i] = g := ⟨_, rfl⟩
    rw [ha] at hv
    cases i with
    | zero =>
      conv => lhs; whnf
      repeat' ((first | split | ((conv => lhs; arg 3; whnf); split)) <;> first | (exfalso; rename_i hx; first | (simp (disch := omega) [leavesIds, V.leaves, Leaf.ids, mem?, nbeq, Ty.width, wrap_id, View.lenN, View.off, View.len_eq, sees_tail, sees_sub, rec_k, tn1, tn2, tn3, tn4, tn5, tn6, ha, hv] at hx; done) | (simp (disch := omega) [leavesIds, V.leaves, Leaf.ids, mem?, nbeq, Ty.width, wrap_id, View.lenN, View.off, View.len_eq, sees_tail, sees_sub, rec_k, tn1, tn2, tn3, tn4, tn5, tn6, ha, hv] at hx; omega) | (refine absurd (hx.symm.trans ?_) Bool.false_ne_true; (try simp only [Bool.and_eq_true, decide_eq_true_eq]); (try simp (disch := omega) [leavesIds, V.leaves, Leaf.ids, mem?, nbeq, Ty.width, wrap_id, View.lenN, View.off, View.len_eq, sees_tail, sees_sub, rec_k, tn1, tn2, tn3, tn4, tn5, tn6, ha, hv]); (try omega); done) | omega) | (rename_i he; cases he; conv => lhs; whnf) | (conv => lhs; whnf))
      rewrite [show IntKind.i64.wrap (((0 : Nat) : Int) - 1) = ((0 : Nat) : Int) - 1 from rfl]
      refine (loopP_eq (fun x y h _ => rv9_inj x y h) (x := (0, 0)) ⟨h, Nat.le_refl _⟩ _).trans ?_
      dsimp only
      conv => lhs; whnf
      rewrite [succ_w (by omega)]
      exact hN'.trans hf
    | succ i =>
      have hl := (lessB_iff _ _).mpr (List.pairwise_iff_getElem.mp hT.hs i (i + 1) (by omega) h (by omega))
      obtain ⟨⟨a', ⟨b', c'⟩, d'⟩, ha'⟩ : ∃ g, xs[i] = g := ⟨_, rfl⟩
      rw [ha, ha'] at hl
      have hw : IntKind.i64.wrap (((i + 1 : Nat) : Int) - 1) = (i : Nat) := pred_w (by omega)
      conv => lhs; whnf
      repeat' ((first | split | ((conv => lhs; arg 3; whnf); split)) <;> first | (exfalso; rename_i hx; first | (simp (disch := omega) [leavesIds, V.leaves, Leaf.ids, mem?, nbeq, Ty.width, wrap_id, View.lenN, View.off, View.len_eq, sees_tail, sees_sub, rec_k, tn1, tn2, tn3, tn4, tn5, tn6, ha, ha', hv, hl, hw] at hx; done) | (simp (disch := omega) [leavesIds, V.leaves, Leaf.ids, mem?, nbeq, Ty.width, wrap_id, View.lenN, View.off, View.len_eq, sees_tail, sees_sub, rec_k, tn1, tn2, tn3, tn4, tn5, tn6, ha, ha', hv, hl, hw] at hx; omega) | (refine absurd (hx.symm.trans ?_) Bool.false_ne_true; (try simp only [Bool.and_eq_true, decide_eq_true_eq]); (try simp (disch := omega) [leavesIds, V.leaves, Leaf.ids, mem?, nbeq, Ty.width, wrap_id, View.lenN, View.off, View.len_eq, sees_tail, sees_sub, rec_k, tn1, tn2, tn3, tn4, tn5, tn6, ha, ha', hv, hl, hw]); (try omega); done) | omega) | (rename_i he; cases he; conv => lhs; whnf) | (conv => lhs; whnf))
      rewrite [show IntKind.i64.wrap (((i + 1 : Nat) : Int) - 1) = ((i + 1 : Nat) : Int) - 1 from wrap_id (by omega) (by omega)]
      refine (loopP_eq (fun x y h _ => rv9_inj x y h) (x := (i + 1, i + 1)) ⟨h, Nat.le_refl _⟩ _).trans ?_
      dsimp only
      conv => lhs; whnf
      rewrite [succ_w (by omega)]
      exact hN'.trans hf
  · conv => lhs; whnf
    (split <;> first | (exfalso; rename_i hx; first | (simp (disch := omega) [leavesIds, V.leaves, Leaf.ids, mem?, nbeq, Ty.width, wrap_id, View.lenN, View.off, View.len_eq, sees_tail, sees_sub, rec_k, tn1, tn2, tn3, tn4, tn5, tn6] at hx; done) | (simp (disch := omega) [leavesIds, V.leaves, Leaf.ids, mem?, nbeq, Ty.width, wrap_id, View.lenN, View.off, View.len_eq, sees_tail, sees_sub, rec_k, tn1, tn2, tn3, tn4, tn5, tn6] at hx; omega) | (refine absurd (hx.symm.trans ?_) Bool.false_ne_true; (try simp only [Bool.and_eq_true, decide_eq_true_eq]); (try simp (disch := omega) [leavesIds, V.leaves, Leaf.ids, mem?, nbeq, Ty.width, wrap_id, View.lenN, View.off, View.len_eq, sees_tail, sees_sub, rec_k, tn1, tn2, tn3, tn4, tn5, tn6]); (try omega); done) | omega) | (conv => lhs; whnf))
    exact hf
theorem rv20_ok {xs ws : List GG} (hT : TabI xs ws) : LoopOK (rvC xs ws) (loopB 20 (codeOf fx17)) (rv20 xs ws) := by
  refine loopP_ok (fun x y h _ => rv20_inj x y h) (fun x => x.1 - x.2) ?_
  rintro ⟨i, j⟩ K r N hi hN hf
  try dsimp only at hi
  try dsimp only at hN
  try dsimp only at hf
  have hlen := hT.len
  obtain ⟨⟨a, ⟨b, c⟩, d⟩, ha⟩ : ∃ g, ws[i] = g := ⟨_, rfl⟩
  have hg : ws.getD i g0 = (a, (b, c), d) := (getD_nth' ws i _ hi).trans ha
  dsimp only
  rcases Nat.lt_or_ge j i with h | h
  · have hj : j < ws.length := by omega
    have hN' := hN (i, j + 1) hi (by simp only; omega)
    dsimp only at hN'
    rw [hg] at hN' ⊢
    have hne := List.pairwise_iff_getElem.mp hT.wn j i (by rw [List.length_map]; exact hj) (by rw [List.length_map]; exact hi) h
    rw [List.getElem_map, List.getElem_map, ha] at hne
    obtain ⟨⟨a', ⟨b', c'⟩, d'⟩, ha'⟩ : ∃ g, ws[j] = g := ⟨_, rfl⟩
    rw [ha'] at hne
    dsimp only at hne
    conv => lhs; whnf
    repeat' ((first | split | ((conv => lhs; arg 3; whnf); split)) <;> first | (exfalso; rename_i hx; first | (simp (disch := omega) [leavesIds, V.leaves, Leaf.ids, mem?, nbeq, Ty.width, wrap_id, View.lenN, View.off, View.len_eq, sees_tail, sees_sub, rec_k, tn1, tn2, tn3, tn4, tn5, tn6, ha', hne] at hx; done) | (simp (disch := omega) [leavesIds, V.leaves, Leaf.ids, mem?, nbeq, Ty.width, wrap_id, View.lenN, View.off, View.len_eq, sees_tail, sees_sub, rec_k, tn1, tn2, tn3, tn4, tn5, tn6, ha', hne] at hx; omega) | (refine absurd (hx.symm.trans ?_) Bool.false_ne_true; (try simp only [Bool.and_eq_true, decide_eq_true_eq]); (try simp (disch := omega) [leavesIds, V.leaves, Leaf.ids, mem?, nbeq, Ty.width, wrap_id, View.lenN, View.off, View.len_eq, sees_tail, sees_sub, rec_k, tn1, tn2, tn3, tn4, tn5, tn6, ha', hne]); (try omega); done) | omega) | (rename_i he; cases he; conv => lhs; whnf) | (conv => lhs; whnf))
    rewrite [succ_w (by omega)]
    exact hN'.trans hf
  · conv => lhs; whnf
    (split <;> first | (exfalso; rename_i hx; first | (simp (disch := omega) [leavesIds, V.leaves, Leaf.ids, mem?, nbeq, Ty.width, wrap_id, View.lenN, View.off, View.len_eq, sees_tail, sees_sub, rec_k, tn1, tn2, tn3, tn4, tn5, tn6] at hx; done) | (simp (disch := omega) [leavesIds, V.leaves, Leaf.ids, mem?, nbeq, Ty.width, wrap_id, View.lenN, View.off, View.len_eq, sees_tail, sees_sub, rec_k, tn1, tn2, tn3, tn4, tn5, tn6] at hx; omega) | (refine absurd (hx.symm.trans ?_) Bool.false_ne_true; (try simp only [Bool.and_eq_true, decide_eq_true_eq]); (try simp (disch := omega) [leavesIds, V.leaves, Leaf.ids, mem?, nbeq, Ty.width, wrap_id, View.lenN, View.off, View.len_eq, sees_tail, sees_sub, rec_k, tn1, tn2, tn3, tn4, tn5, tn6]); (try omega); done) | omega) | (conv => lhs; whnf))
    exact hf
theorem rv14_ok {xs ws : List GG} (hT : TabI xs ws) : LoopOK (rvC xs ws) (loopB 14 (codeOf fx17)) (rv14 xs ws) := by
  refine loopP_ok (fun x y h _ => rv4_inj x y h) (fun i => ws.length - i) ?_
  intro i K r N _ hN hf
  try dsimp only at hN
  try dsimp only at hf
  have hlen := hT.len
  rcases Nat.lt_or_ge i ws.length with h | h
  · have hv := hT.wv ws[i] (List.getElem_mem _)
    have hm := hT.wm ws[i] (List.getElem_mem _)
    rw [show ws[i].2.1 = (ws[i].2.1.1, ws[i].2.1.2) from rfl, ← modeR_eq hT.hs] at hm
    have hN' := hN (i + 1) trivial (by omega)
    obtain ⟨⟨a, ⟨b, c⟩, d⟩, ha⟩ : ∃ g, ws[i] = g := ⟨_, rfl⟩
    have hg : ws.getD i g0 = (a, (b, c), d) := (getD_nth' ws i _ h).trans ha
    rw [ha] at hv hm
    dsimp only at hm
    have e1 : decide (modeR xs a b c ≥ d) = false := decide_eq_false (by omega)
    have e2 : decide (List.length xs ≤ 1048576) = true := decide_eq_true (by omega)
    conv => lhs; whnf
    repeat' ((first | split | ((conv => lhs; arg 3; whnf); split)) <;> first | (exfalso; rename_i hx; first | (simp (disch := omega) [leavesIds, V.leaves, Leaf.ids, mem?, nbeq, Ty.width, wrap_id, View.lenN, View.off, View.len_eq, sees_tail, sees_sub, rec_k, tn1, tn2, tn3, tn4, tn5, tn6, ha, hv, hm] at hx; done) | (simp (disch := omega) [leavesIds, V.leaves, Leaf.ids, mem?, nbeq, Ty.width, wrap_id, View.lenN, View.off, View.len_eq, sees_tail, sees_sub, rec_k, tn1, tn2, tn3, tn4, tn5, tn6, ha, hv, hm] at hx; omega) | (refine absurd (hx.symm.trans ?_) Bool.false_ne_true; (try simp only [Bool.and_eq_true, decide_eq_true_eq]); (try simp (disch := omega) [leavesIds, V.leaves, Leaf.ids, mem?, nbeq, Ty.width, wrap_id, View.lenN, View.off, View.len_eq, sees_tail, sees_sub, rec_k, tn1, tn2, tn3, tn4, tn5, tn6, ha, hv, hm]); (try omega); done) | omega) | (rename_i he; cases he; conv => lhs; whnf) | (conv => lhs; whnf))
    refine (loopP_eq (fun x y h _ => rv20_inj x y h) (x := (i, 0)) h _).trans ?_
    dsimp only
    conv => lhs; whnf
    rewrite [succ_w (by omega)]
    exact hN'.trans hf
  · conv => lhs; whnf
    (split <;> first | (exfalso; rename_i hx; first | (simp (disch := omega) [leavesIds, V.leaves, Leaf.ids, mem?, nbeq, Ty.width, wrap_id, View.lenN, View.off, View.len_eq, sees_tail, sees_sub, rec_k, tn1, tn2, tn3, tn4, tn5, tn6] at hx; done) | (simp (disch := omega) [leavesIds, V.leaves, Leaf.ids, mem?, nbeq, Ty.width, wrap_id, View.lenN, View.off, View.len_eq, sees_tail, sees_sub, rec_k, tn1, tn2, tn3, tn4, tn5, tn6] at hx; omega) | (refine absurd (hx.symm.trans ?_) Bool.false_ne_true; (try simp only [Bool.and_eq_true, decide_eq_true_eq]); (try simp (disch := omega) [leavesIds, V.leaves, Leaf.ids, mem?, nbeq, Ty.width, wrap_id, View.lenN, View.off, View.len_eq, sees_tail, sees_sub, rec_k, tn1, tn2, tn3, tn4, tn5, tn6]); (try omega); done) | omega) | (conv => lhs; whnf))
    exact hf
def pValidR := pureP [TB] fun x k => gd (tabOk x.1.1 x.1.2) (k (.one (.bool true)) [])
theorem rvalid_ok : COK Try.prog 17 pValidR := by
  refine pure_cokD fun ⟨⟨xs, ws⟩, u⟩ hb => ?_
  by_cases ht : tabOk xs ws = true
  · have hT := tabI_of ht
    have hlen := hT.len
    refine ⟨_, fn_ok (x := fx17) (H := rvH) (L := [(9, rv9 xs ws), (4, rv4 xs ws), (20, rv20 xs ws), (14, rv14 xs ws)]) rfl rfl ⟨rgrant_ok, rless_ok, rconflict_ok, rmode_ok, trivial⟩ (by kernel_rfl) ⟨rv9_ok hT, rv4_ok hT, rv20_ok hT, rv14_ok hT, trivial⟩, fun k r h => ?_⟩
    obtain ⟨h1, h⟩ := gd_some.mp h
    have hw : IntKind.i64.wrap ((List.length xs : Int) + (List.length ws : Int)) = (List.length xs : Int) + (List.length ws : Int) := wrap_id (by omega) (by omega)
    have e1 : decide (IntKind.i64.wrap ((List.length xs : Int) + (List.length ws : Int)) > 1024) = false := decide_eq_false (by omega)
    conv => lhs; whnf
    split
    · rename_i hx
      exact tf hx (e1)
    conv => lhs; whnf
    refine (loopP_eq (fun x y h _ => rv4_inj x y h) (x := 0) trivial _).trans ?_
    try dsimp only
    conv => lhs; whnf
    refine (loopP_eq (fun x y h _ => rv4_inj x y h) (x := 0) trivial _).trans ?_
    try dsimp only
    conv => lhs; whnf
    exact h
  · exact ⟨fun _ _ _ => none, ⟨fun {ok μ m w args vs k r} hS hx hp => by cases hp⟩, fun k r h => absurd (gd_some.mp h).1 ht⟩
end Go.Ev.Tab

/- The law of waits that arise: its loops. Own work. -/
set_option maxRecDepth 100000
set_option maxHeartbeats 1000000
set_option linter.unusedVariables false
set_option linter.unusedSimpArgs false
namespace Go.Ev.Tab
open Go Go.Ev.X Go.Proofs

structure LA where
  a : Nat
  xs : List GG
  ws : List GG
  n : Option Bool
  m : Option Nat
abbrev laM (l : List Int) (x : LA) : Mem := [(100000000, .box false [.sl U8 l none none, .int .i64 x.a]), (100000001, .box false [.sl G x.xs x.n x.m, .sl G x.ws x.n x.m])]
theorem laM_inj {l : List Int} {x y : LA} (h : laM l x = laM l y) : x = y := by
  obtain ⟨a, xs, ws, n, m⟩ := x
  obtain ⟨a', xs', ws', n', m'⟩ := y
  simp only [List.cons.injEq, Prod.mk.injEq, Obj.box.injEq, true_and, and_true, Leaf.int.injEq, Leaf.sl.injEq, heq_eq_eq, LA.mk.injEq] at h ⊢
  obtain ⟨h1, h2, h3⟩ := h
  exact ⟨by omega, h2.1, h3.1, h2.2.1, h2.2.2⟩
structure LC where
  s : LA
  tx : Nat
  t : Int
  k : Nat
structure Chain (xs ws : List GG) (t : Int) (k : Nat) : Prop where
  ht : t ∈ ([1, 2, 3, 4, 5] : List Int)
  hc : ∃ c : List Int, c.Nodup ∧ (∀ y ∈ c, y ∈ ([1, 2, 3, 4, 5] : List Int) ∧ Tr (E xs ws) y t) ∧ c.length = k
noncomputable def law31 (l : List Int) := loopP (α := LC) (fun x => [sP 100000000, sP 100000001, .one (.int .i64 x.tx), .one (.int .i64 x.t), .one (.int .i64 x.k)]) (fun x => laM l x.s)
  (fun x => Good x.s.xs x.s.ws ∧ Chain x.s.xs x.s.ws x.t x.k ∧ x.k ≤ 5) (fun x K => K.exit 5 [sP 100000000, sP 100000001, .one (.int .i64 x.tx)] (laM l x.s))
theorem law31_inj {l : List Int} (x y : LC) (h : [sP 100000000, sP 100000001, AV.one (.int .i64 x.tx), .one (.int .i64 x.t), .one (.int .i64 x.k)] = [sP 100000000, sP 100000001, AV.one (.int .i64 y.tx), .one (.int .i64 y.t), .one (.int .i64 y.k)])
    (h' : laM l x.s = laM l y.s) : x = y := by
  obtain ⟨s, a, b, c⟩ := x
  obtain ⟨s', a', b', c'⟩ := y
  simp only [List.cons.injEq] at h
  have h1 := int_last h.2.2.1
  have h2 := av_int_inj h.2.2.2.1
  have h3 := int_last h.2.2.2.2.1
  have h4 := laM_inj h'
  try dsimp only at h1
  try dsimp only at h2
  try dsimp only at h3
  try dsimp only at h4
  rw [h1, h2, h3, h4]
structure LB where
  s : LA
  tx : Nat
noncomputable def law25 (l : List Int) := loopP (α := LB) (fun x => [sP 100000000, sP 100000001, .one (.int .i64 x.tx)]) (fun x => laM l x.s)
  (fun x => Good x.s.xs x.s.ws ∧ 1 ≤ x.tx ∧ x.tx ≤ 6) (fun x K => K.exit 3 [sP 100000000, sP 100000001] (laM l x.s))
theorem law25_inj {l : List Int} (x y : LB) (h : [sP 100000000, sP 100000001, AV.one (.int .i64 x.tx)] = [sP 100000000, sP 100000001, AV.one (.int .i64 y.tx)]) (h' : laM l x.s = laM l y.s) : x = y := by
  obtain ⟨s, a⟩ := x
  obtain ⟨s', a'⟩ := y
  simp only [List.cons.injEq] at h
  have h1 := int_last h.2.2.1
  have h4 := laM_inj h'
  try dsimp only at h1
  try dsimp only at h4
  rw [h1, h4]
noncomputable def law5 (l : List Int) := loopP (α := LA) (fun x => [sP 100000000, sP 100000001]) (fun x => laM l x)
  (fun x => Good x.xs x.ws ∧ x.a ≤ l.length ∧ l.length ≤ 300 ∧ bytes l = true) (fun x K => K.exit 0 [] [])
noncomputable abbrev lawH : List (Nat × (List AV → Mem → AK → R)) := [(5, pAwake), (7, pNew), (8, pLeft), (9, pGrant), (10, pNext),
  (11, pCancel), (12, pDrop), (13, pRelease), (14, pRequest), (15, pWould), (6, pCycle), (16, pInts), (17, pValidR), (18, pFor)]
noncomputable abbrev lawC (l : List Int) := rc lawH [(31, law31 l), (25, law25 l), (5, law5 l)] fx4
theorem n31_cast {N : List AV → Mem → R} {p q : AV} {tx t t' : Int} {j : Int} {m : Mem} {r : AV × Mem} (h : N [p, q, .one (.int .i64 tx), .one (.int .i64 t), .one (.int .i64 j)] m = some r) (e : t' = t) : N [p, q, .one (.int .i64 tx), .one (.int .i64 t'), .one (.int .i64 j)] m = some r := by subst e; exact h
theorem law31_ok (l : List Int) : LoopOK (lawC l) (loopB 31 (codeOf fx4)) (law31 l) := by
  refine loopP_ok law31_inj (fun x => 5 - x.k) ?_
  rintro ⟨⟨a, xs, ws, n, m⟩, tx, t, j⟩ K r N ⟨hG, hC, hj⟩ hN hf
  try dsimp only at hG
  try dsimp only at hC
  try dsimp only at hj
  try dsimp only at hN
  try dsimp only at hf
  dsimp only
  have hfew := few_ok hG.tab hG.inr t
  have hfor : forF xs ws t = blkS xs ws t := by unfold forF; rw [tabOk_of hG.tab]; rfl
  have hj5 : j ≠ 5 := by
    rintro rfl
    obtain ⟨c, h1, h2, h3⟩ := hC.hc
    exact chain_end hG h1 h2 h3 hC.ht
  have hbl := blkS_len xs ws t hfew
  rw [← hfor] at hbl
  by_cases hfe : forF xs ws t = []
  · conv => lhs; whnf
    repeat' ((first | split | ((conv => lhs; arg 3; whnf); split)) <;> first | (exfalso; rename_i hx; first | (simp (disch := omega) [leavesIds, V.leaves, Leaf.ids, mem?, nbeq, Ty.width, wrap_id, View.lenN, View.off, View.len_eq, sees_tail, sees_sub, rec_k, tn1, tn2, tn3, tn4, tn5, tn6, hfew, hfe] at hx; done) | (simp (disch := omega) [leavesIds, V.leaves, Leaf.ids, mem?, nbeq, Ty.width, wrap_id, View.lenN, View.off, View.len_eq, sees_tail, sees_sub, rec_k, tn1, tn2, tn3, tn4, tn5, tn6, hfew, hfe] at hx; omega) | (refine absurd (hx.symm.trans ?_) Bool.false_ne_true; (try simp only [Bool.and_eq_true, decide_eq_true_eq]); (try simp (disch := omega) [leavesIds, V.leaves, Leaf.ids, mem?, nbeq, Ty.width, wrap_id, View.lenN, View.off, View.len_eq, sees_tail, sees_sub, rec_k, tn1, tn2, tn3, tn4, tn5, tn6, hfew, hfe]); (try omega); done) | omega) | (rename_i he; cases he; conv => lhs; whnf) | (conv => lhs; whnf))
    exact hf
  · obtain ⟨q, hq, hql, hql'⟩ := lastI_eq hfe
    have hw : IntKind.i64.wrap (((forF xs ws t).length : Int) - 1) = (q : Nat) := by rw [hq]; exact pred_w (by omega)
    have hR : Rb xs ws t (lastI (forF xs ws t)) := by
      show _ ∈ blkS xs ws t
      rw [← hfor, hql']
      exact List.getElem_mem _
    have hE := (blkS_E hG.tab.wn _ _).mp hR
    have hC' : Chain xs ws (lastI (forF xs ws t)) (j + 1) := by
      obtain ⟨c, h1, h2, h3⟩ := hC.hc
      refine ⟨?_, t :: c, List.nodup_cons.mpr ⟨fun hm => hG.acy t (h2 t hm).2, h1⟩, fun y hy => ?_, by simp [h3]⟩
      · obtain ⟨_, _, _, g, e, _, hg, _, e'⟩ := hE
        rw [← e']
        exact in5 (hG.inr g (hg.imp id fun h => by rw [e]; simp [h]))
      · rcases List.mem_cons.mp hy with rfl | hy
        · exact ⟨hC.ht, .one hE⟩
        · exact ⟨(h2 y hy).1, (h2 y hy).2.snoc hE⟩
    have hz : (forF xs ws t).getD (IntKind.i64.wrap (((forF xs ws t).length : Int) - 1)).toNat (Ty.dflt I) = lastI (forF xs ws t) := by
      rw [hw, hql']
      exact getD_nth _ _ _ hql
    conv => lhs; whnf
    repeat' ((first | split | ((conv => lhs; arg 3; whnf); split)) <;> first | (exfalso; rename_i hx; first | (simp (disch := omega) [leavesIds, V.leaves, Leaf.ids, mem?, nbeq, Ty.width, wrap_id, View.lenN, View.off, View.len_eq, sees_tail, sees_sub, rec_k, tn1, tn2, tn3, tn4, tn5, tn6, hfew, hq] at hx; done) | (simp (disch := omega) [leavesIds, V.leaves, Leaf.ids, mem?, nbeq, Ty.width, wrap_id, View.lenN, View.off, View.len_eq, sees_tail, sees_sub, rec_k, tn1, tn2, tn3, tn4, tn5, tn6, hfew, hq] at hx; omega) | (refine absurd (hx.symm.trans ?_) Bool.false_ne_true; (try simp only [Bool.and_eq_true, decide_eq_true_eq]); (try simp (disch := omega) [leavesIds, V.leaves, Leaf.ids, mem?, nbeq, Ty.width, wrap_id, View.lenN, View.off, View.len_eq, sees_tail, sees_sub, rec_k, tn1, tn2, tn3, tn4, tn5, tn6, hfew, hq]); (try omega); done) | omega) | (rename_i he; cases he; conv => lhs; whnf) | (conv => lhs; whnf))
    rewrite [succ_w (i := j) (by omega)]
    exact n31_cast ((hN ⟨⟨a, xs, ws, n, m⟩, tx, lastI (forF xs ws t), j + 1⟩ ⟨hG, hC', by simp only; omega⟩ (by simp only; omega)).trans hf) hz
theorem law25_ok (l : List Int) : LoopOK (lawC l) (loopB 25 (codeOf fx4)) (law25 l) := by
  refine loopP_ok law25_inj (fun x => 6 - x.tx) ?_
  rintro ⟨⟨a, xs, ws, n, m⟩, tx⟩ K r N ⟨hG, h1, h6⟩ hN hf
  try dsimp only at hG
  try dsimp only at h1
  try dsimp only at h6
  try dsimp only at hN
  try dsimp only at hf
  dsimp only
  have e1 : @decide (∀ t, blkFew xs ws t = true) (Classical.propDecidable _) = true := by
    simp only [decide_eq_true_eq]
    exact few_ok hG.tab hG.inr
  have hcy := hG.cyc (tx : Int)
  rcases Nat.lt_or_ge tx 6 with h | h
  · conv => lhs; whnf
    (split <;> first | (exfalso; rename_i hx; first | (simp (disch := omega) [leavesIds, V.leaves, Leaf.ids, mem?, nbeq, Ty.width, wrap_id, View.lenN, View.off, View.len_eq, sees_tail, sees_sub, rec_k, tn1, tn2, tn3, tn4, tn5, tn6] at hx; done) | (simp (disch := omega) [leavesIds, V.leaves, Leaf.ids, mem?, nbeq, Ty.width, wrap_id, View.lenN, View.off, View.len_eq, sees_tail, sees_sub, rec_k, tn1, tn2, tn3, tn4, tn5, tn6] at hx; omega) | (refine absurd (hx.symm.trans ?_) Bool.false_ne_true; (try simp only [Bool.and_eq_true, decide_eq_true_eq]); (try simp (disch := omega) [leavesIds, V.leaves, Leaf.ids, mem?, nbeq, Ty.width, wrap_id, View.lenN, View.off, View.len_eq, sees_tail, sees_sub, rec_k, tn1, tn2, tn3, tn4, tn5, tn6]); (try omega); done) | omega) | (conv => lhs; whnf))
    split
    rotate_left
    · rename_i hx
      exact tf (e1) hx
    conv => lhs; whnf
    repeat' ((first | split | ((conv => lhs; arg 3; whnf); split)) <;> first | (exfalso; rename_i hx; first | (simp (disch := omega) [leavesIds, V.leaves, Leaf.ids, mem?, nbeq, Ty.width, wrap_id, View.lenN, View.off, View.len_eq, sees_tail, sees_sub, rec_k, tn1, tn2, tn3, tn4, tn5, tn6, hcy] at hx; done) | (simp (disch := omega) [leavesIds, V.leaves, Leaf.ids, mem?, nbeq, Ty.width, wrap_id, View.lenN, View.off, View.len_eq, sees_tail, sees_sub, rec_k, tn1, tn2, tn3, tn4, tn5, tn6, hcy] at hx; omega) | (refine absurd (hx.symm.trans ?_) Bool.false_ne_true; (try simp only [Bool.and_eq_true, decide_eq_true_eq]); (try simp (disch := omega) [leavesIds, V.leaves, Leaf.ids, mem?, nbeq, Ty.width, wrap_id, View.lenN, View.off, View.len_eq, sees_tail, sees_sub, rec_k, tn1, tn2, tn3, tn4, tn5, tn6, hcy]); (try omega); done) | omega) | (rename_i he; cases he; conv => lhs; whnf) | (conv => lhs; whnf))
    refine (loopP_eq law31_inj (x := ⟨⟨a, xs, ws, n, m⟩, tx, tx, 0⟩) ⟨hG, ⟨in5 (by simp only; omega), [], List.nodup_nil, by simp, rfl⟩, by simp only; omega⟩ _).trans ?_
    dsimp only
    conv => lhs; whnf
    rewrite [succ_w (i := tx) (by omega)]
    exact (hN ⟨⟨a, xs, ws, n, m⟩, tx + 1⟩ ⟨hG, by simp only; omega, by simp only; omega⟩ (by simp only; omega)).trans hf
  · conv => lhs; whnf
    (split <;> first | (exfalso; rename_i hx; first | (simp (disch := omega) [leavesIds, V.leaves, Leaf.ids, mem?, nbeq, Ty.width, wrap_id, View.lenN, View.off, View.len_eq, sees_tail, sees_sub, rec_k, tn1, tn2, tn3, tn4, tn5, tn6] at hx; done) | (simp (disch := omega) [leavesIds, V.leaves, Leaf.ids, mem?, nbeq, Ty.width, wrap_id, View.lenN, View.off, View.len_eq, sees_tail, sees_sub, rec_k, tn1, tn2, tn3, tn4, tn5, tn6] at hx; omega) | (refine absurd (hx.symm.trans ?_) Bool.false_ne_true; (try simp only [Bool.and_eq_true, decide_eq_true_eq]); (try simp (disch := omega) [leavesIds, V.leaves, Leaf.ids, mem?, nbeq, Ty.width, wrap_id, View.lenN, View.off, View.len_eq, sees_tail, sees_sub, rec_k, tn1, tn2, tn3, tn4, tn5, tn6]); (try omega); done) | omega) | (conv => lhs; whnf))
    exact hf
end Go.Ev.Tab
