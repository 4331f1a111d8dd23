/- Contracts of the table of locks and of waits: first part. Own work. -/
import Derived.Test.YtniigndkhlhlcaaTabA
import Derived.Test.YtniigndkhlhlcaaEvG
set_option linter.all false
set_option maxRecDepth 100000
set_option linter.unusedVariables false
namespace Go.Ev.Tab
open Go Go.Ev.X Go.Proofs

noncomputable abbrev rc (H : List (Nat × (List AV → Mem → AK → R))) (L : List (Nat × (List AV → Mem → XK → R))) (x : FX) : RC := rcOf T sr (X.polOf funcs) (lookP H) (lookL L) x 0 false

/-- A function, its callees and loops by contract. -/
theorem fn_ok {f : Nat} {x : FX} {H : List (Nat × (List AV → Mem → AK → R))} {L : List (Nat × (List AV → Mem → XK → R))} (hx : funcs.get f = some x) (hc : x.code = some (codeOf x)) (hH : AllOK Try.prog H) (hd : nodupB ((loopsOf (codeOf x)).map loopKey) = true)
    (hL : AllL (rc H L x) (codeOf x) L) : COK Try.prog f (body (rc H L x) (codeOf x)) :=
  ⟨func_ok tab (lookP_ok hH.mem) hx hc (only_list rfl hd hL.mem)⟩

abbrev G : Ty := .pair (.int .i64) (.pair (.pair (.int .i64) (.int .i64)) (.int .i64))
abbrev I : Ty := .int .i64
abbrev GG := Int × (Int × Int) × Int

theorem kbool {k : AK} {m : Mem} {x y : Bool} (h : x = y) : k (.one (.bool x)) m = k (.one (.bool y)) m := by rw [h]
theorem kint {k : AK} {m : Mem} {x y : Int} (h : x = y) : k (.one (.int .i64 x)) m = k (.one (.int .i64 y)) m := by rw [h]
theorem beq_pair (a b : Ty) (x y : (Ty.pair a b).El) : (Ty.pair a b).beq x y = (a.beq x.1 y.1 && b.beq x.2 y.2) := rfl
theorem beq_int (κ : IntKind) (x y : Int) : (Ty.int κ).beq x y = (x == y) := rfl

/-! ### conflict -/
def conflict (a b : GG) : Bool := (a.1 != b.1) && (a.2.1.1 == b.2.1.1 && a.2.1.2 == b.2.1.2) && (a.2.2 == 2 || b.2.2 == 2)
def pConflict := ansP [G, G] fun x => .one (.bool (conflict x.1 x.2.1))

theorem conflict_ok : COK Try.prog 46 pConflict := by
  refine ans_cok (fn_ok (x := fx46) (H := []) (L := []) rfl rfl trivial (by kernel_rfl) trivial) ?_
  rintro ⟨a, b, u⟩ k hb
  clear hb
  conv => lhs; whnf
  repeat' (split <;> (conv => lhs; whnf))
  all_goals exact kbool (by rw [Bool.eq_iff_iff]; simp_all [conflict, beq_pair, beq_int])

theorem lconflict_ok : COK Try.prog 41 pConflict := by
  refine ans_cok (fn_ok (x := fx41) (H := []) (L := []) rfl rfl trivial (by kernel_rfl) trivial) ?_
  rintro ⟨a, b, u⟩ k hb
  clear hb
  conv => lhs; whnf
  repeat' (split <;> (conv => lhs; whnf))
  all_goals exact kbool (by rw [Bool.eq_iff_iff]; simp_all [conflict, beq_pair, beq_int])

/-! ### comparing -/
def pFalse (ts : List Ty) := ansP ts fun x => .one (.bool false)
theorem isNaN_ok : COK Try.prog 65 (pFalse [I]) := by
  refine ans_cok (fn_ok (x := fx65) (H := []) (L := []) rfl rfl trivial (by kernel_rfl) trivial) ?_
  rintro ⟨a, u⟩ k hb
  conv => lhs; whnf
  exact kbool (by simp)

def cmpI (a b : Int) : Int := if a < b then -1 else if a > b then 1 else 0
def pCompare := ansP [I, I] fun x => .one (.int .i64 (cmpI x.1 x.2.1))
theorem compare_ok : COK Try.prog 59 pCompare := by
  refine ans_cok (fn_ok (x := fx59) (H := [(65, pFalse [I])]) (L := []) rfl rfl ⟨isNaN_ok, trivial⟩ (by kernel_rfl) trivial) ?_
  rintro ⟨a, b, u⟩ k hb
  clear hb
  conv => lhs; whnf
  repeat' (split <;> (conv => lhs; whnf))
  all_goals exact kint (by simp_all [cmpI]; try omega)

/-! ### a grant's validity -/
def valid (g : GG) : Bool := decide (1 ≤ g.1) && decide (g.1 ≤ 1073741824) && decide (0 ≤ g.2.1.1) && decide (g.2.1.1 < 64) && decide (0 ≤ g.2.1.2) && decide (g.2.1.2 < 16) && (g.2.2 == 1 || g.2.2 == 2)
def pValid := ansP [G] fun x => .one (.bool (valid x.1))
theorem valid_ok : COK Try.prog 29 pValid := by
  refine ans_cok (fn_ok (x := fx29) (H := []) (L := []) rfl rfl trivial (by kernel_rfl) trivial) ?_
  rintro ⟨a, u⟩ k hb
  clear hb
  obtain ⟨tx, ⟨pg, sl⟩, md⟩ : Int × (Int × Int) × Int := a
  conv => lhs; whnf
  repeat' (split <;> (conv => lhs; whnf))
  all_goals exact kbool (by rw [Bool.eq_iff_iff]; simp_all [valid] <;> (intros; omega))

/-! ### the first number that is not zero -/
def orI : List Int → Int
  | [] => 0
  | x :: r => if x = 0 then orI r else x
def pOr := ansP [.sl I] fun x => .one (.int .i64 (orI x.1))

noncomputable def orL := loopP (α := Nat × List Int) (fun x => [.one (.int .i64 0), .one (.sl I x.2 none none), .one (.int .i64 x.2.length), .one (.int .i64 x.1)]) (fun x => [])
  (fun x => x.2.length ≤ big) (fun x K => if orI (x.2.drop x.1) = 0 then K.exit 0 [.one (.int .i64 0)] [] else K.ret [.one (.int .i64 (orI (x.2.drop x.1)))] [])
theorem orL_inj (x y : Nat × List Int) (h : [AV.one (.int .i64 0), .one (.sl I x.2 none none), .one (.int .i64 x.2.length), .one (.int .i64 x.1)] = [AV.one (.int .i64 0), .one (.sl I y.2 none none), .one (.int .i64 y.2.length), .one (.int .i64 y.1)]) : x = y := by
  simp only [List.cons.injEq] at h
  exact Prod.ext (Int.ofNat.inj (av_int_inj h.2.2.2.1)) (av_sl_inj h.2.1)
theorem orL_ok : LoopOK (rc [] [(3, orL)] fx58) (loopB 3 (codeOf fx58)) orL := by
  refine loopP_ok (fun x y h _ => orL_inj x y h) (fun x => x.2.length - x.1) ?_
  rintro ⟨i, xs⟩ K r N hb hN hf
  dsimp only at hb hN hf
  rcases Nat.lt_or_ge i xs.length with h | h
  · have e1 := lt_t h
    have e2 := ix_t (a := I.width) (b := 1) rfl h
    rw [drop_nth xs i h, orI] at hf
    conv => lhs; whnf
    rw [e1]
    conv => lhs; whnf
    rw [e2]
    conv => lhs; whnf
    rw [getD_nth xs i _ h]
    split
    · rename_i h0
      conv => lhs; whnf
      rw [← hf]
      simp only [bne_iff_ne, ne_eq] at h0
      simp [h0]
    · rename_i h0
      conv => lhs; whnf
      simp only [bne_eq_false_iff_eq] at h0
      rw [succ_w (big_lt h hb)]
      refine (hN (i + 1, xs) hb (by simp only; omega)).trans ?_
      rw [← hf]
      simp [h0]
  · rw [List.drop_eq_nil_of_le h, orI, if_pos rfl] at hf
    conv => lhs; whnf
    rw [lt_f h]
    conv => lhs; whnf
    exact hf
theorem or_ok : COK Try.prog 58 pOr := by
  refine ans_cok (fn_ok (x := fx58) (H := []) (L := [(3, orL)]) rfl rfl trivial (by kernel_rfl) ⟨orL_ok, trivial⟩) ?_
  rintro ⟨xs, u⟩ k hb
  obtain ⟨hb, _⟩ := hb
  dsimp only at hb
  conv => lhs; whnf
  refine (loopP_eq (fun x y h _ => orL_inj x y h) (x := (0, xs)) hb.1 _).trans ?_
  split
  · conv => lhs; whnf
    exact kint (by simp_all)
  · conv => lhs; whnf
    exact kint rfl

end Go.Ev.Tab

set_option maxRecDepth 100000
set_option linter.unusedVariables false
namespace Go.Ev.Tab
open Go Go.Ev.X Go.Proofs

/-! ### the order of grants -/
def order (a b : GG) : Int := orI [cmpI a.2.1.1 b.2.1.1, cmpI a.2.1.2 b.2.1.2, cmpI a.1 b.1]
def pOrder := ansP [G, G] fun x => .one (.int .i64 (order x.1 x.2.1))
theorem order_ok : COK Try.prog 40 pOrder := by
  refine ans_cok (fn_ok (x := fx40) (H := [(58, pOr), (59, pCompare)]) (L := []) rfl rfl ⟨or_ok, compare_ok, trivial⟩ (by kernel_rfl) trivial) ?_
  rintro ⟨a, b, u⟩ k hb
  clear hb
  conv => lhs; whnf
  exact kint rfl
end Go.Ev.Tab

set_option maxRecDepth 100000
set_option linter.unusedVariables false
namespace Go.Ev.Tab
open Go Go.Ev.X Go.Proofs

theorem mid_w {i j : Nat} (h : i + j < 9223372036854775808) : IntKind.i64.wrap ((IntKind.u64.wrap (IntKind.i64.wrap ((i : Int) + (j : Int)))).fdiv (2 ^ min (Int.toNat 1) IntKind.u64.bits)) = (((i + j) / 2 : Nat) : Int) := by
  rw [wrap_id (n := (i : Int) + j) (by omega) (by omega)]
  have hu : IntKind.u64.wrap ((i : Int) + j) = (i : Int) + j := by
    unfold IntKind.wrap
    simp only [IntKind.signed, IntKind.bits]
    simp
    omega
  rw [hu]
  have h2 : (2 : Int) ^ min (Int.toNat 1) IntKind.u64.bits = 2 := by decide
  rw [h2]
  rw [Int.fdiv_eq_ediv_of_nonneg _ (by omega)]
  rw [wrap_id (by omega) (by omega)]
  omega

theorem tf {p : Prop} {c : Bool} (h1 : c = true) (h2 : c = false) : p := by rw [h1] at h2; cases h2
theorem ktib {k : AK} {m : Mem} {κ : IntKind} {i : Int} {x y : Bool} (h : x = y) : k (.tup [.one (.int κ i), .one (.bool x)]) m = k (.tup [.one (.int κ i), .one (.bool y)]) m := by rw [h]

/-! ### where a grant is, or would be -/
abbrev g0 : GG := (0, (0, 0), 0)
def bsN (xs : List GG) (g : GG) : Nat → Nat → Nat → Nat
  | 0, i, _ => i
  | n + 1, i, j => if i < j then (bif decide (order (xs.getD ((i + j) / 2) g0) g < 0) then bsN xs g n ((i + j) / 2 + 1) j else bsN xs g n i ((i + j) / 2)) else i
theorem bsN_eq (xs : List GG) (g : GG) : ∀ (n m i j : Nat), j ≤ i + n → j ≤ i + m → bsN xs g n i j = bsN xs g m i j
  | 0, 0, i, j, _, _ => rfl
  | 0, m + 1, i, j, h, _ => by rw [bsN, bsN, if_neg (by omega)]
  | n + 1, 0, i, j, _, h => by rw [bsN, bsN, if_neg (by omega)]
  | n + 1, m + 1, i, j, h1, h2 => by
    rw [bsN, bsN]
    split
    · cases decide (order (xs.getD ((i + j) / 2) g0) g < 0) with
      | true => exact bsN_eq xs g n m _ _ (by omega) (by omega)
      | false => exact bsN_eq xs g n m _ _ (by omega) (by omega)
    · rfl
theorem bsN_le (xs : List GG) (g : GG) : ∀ (n i j : Nat), i ≤ j → bsN xs g n i j ≤ j
  | 0, i, j, h => h
  | n + 1, i, j, h => by
    rw [bsN]
    split
    · cases decide (order (xs.getD ((i + j) / 2) g0) g < 0) with
      | true => exact bsN_le xs g n _ _ (by omega)
      | false => exact Nat.le_trans (bsN_le xs g n _ _ (by omega)) (by omega)
    · exact h
abbrev gLeaves (g : GG) : List Leaf := [.int .i64 g.1, .int .i64 g.2.1.1, .int .i64 g.2.1.2, .int .i64 g.2.2]
theorem gLeaves_inj {g h : GG} (e : gLeaves g = gLeaves h) : g = h := by
  obtain ⟨a, ⟨b, c⟩, d⟩ := g
  obtain ⟨a', ⟨b', c'⟩, d'⟩ := h
  simp only [gLeaves, List.cons.injEq, Leaf.int.injEq, and_true, true_and] at e
  obtain ⟨rfl, rfl, rfl, rfl⟩ := e
  rfl
theorem box1_inj {i : Nat} {r : Bool} {a b : List Leaf} (h : [(i, Obj.box r a)] = [(i, Obj.box r b)]) : a = b := by cases h; rfl

abbrev BSt := List GG × GG × Nat × Nat
abbrev bsV (x : BSt) : List AV := [.one (.sl G x.1 none none), .one (.fn 40 [] []), .one (.ptr 100000000 0 none), .one (.int .i64 x.1.length), .one (.int .i64 x.2.2.1), .one (.int .i64 x.2.2.2)]
abbrev bsM (x : BSt) : Mem := [(100000000, .box false (gLeaves x.2.1))]
noncomputable def bsL := loopP (α := BSt) bsV bsM (fun x => x.2.2.1 ≤ x.2.2.2 ∧ x.2.2.2 ≤ x.1.length ∧ x.1.length ≤ big)
  (fun x K => K.exit 0 [.one (.sl G x.1 none none), .one (.fn 40 [] []), .one (.ptr 100000000 0 none), .one (.int .i64 x.1.length), .one (.int .i64 (bsN x.1 x.2.1 x.1.length x.2.2.1 x.2.2.2 : Nat))] (bsM x))
theorem bsL_inj (x y : BSt) (h : bsV x = bsV y) (h' : bsM x = bsM y) : x = y := by
  simp only [List.cons.injEq] at h
  exact Prod.ext (av_sl_inj h.1) (Prod.ext (gLeaves_inj (box1_inj h')) (Prod.ext (Int.ofNat.inj (av_int_inj h.2.2.2.2.1)) (Int.ofNat.inj (av_int_inj h.2.2.2.2.2.1))))
theorem bsL_ok : LoopOK (rc [(40, pOrder)] [(3, bsL)] fx62) (loopB 3 (codeOf fx62)) bsL := by
  refine loopP_ok bsL_inj (fun x => x.2.2.2 - x.2.2.1) ?_
  rintro ⟨xs, g, i, j⟩ K r N ⟨hi, hj, hb⟩ hN hf
  dsimp only at hi hj hb hN hf
  rcases Nat.lt_or_ge i j with hij | hij
  · have e1 := lt_t hij
    have hm : i + j < 9223372036854775808 := by unfold big at hb; omega
    have hh : (i + j) / 2 < xs.length := by omega
    have e2 := ix_t (a := G.width) (b := 4) rfl hh
    obtain ⟨n, hn⟩ : ∃ n, xs.length = n + 1 := ⟨xs.length - 1, by omega⟩
    have hbs : bsN xs g xs.length i j = bif decide (order (xs.getD ((i + j) / 2) g0) g < 0) then bsN xs g xs.length ((i + j) / 2 + 1) j else bsN xs g xs.length i ((i + j) / 2) := by
      rw [bsN_eq xs g xs.length (xs.length + 1) i j (by omega) (by omega)]
      conv => lhs; rw [bsN]
      rw [if_pos hij]
    rw [hbs] at hf
    conv => lhs; whnf
    rw [e1]
    conv => lhs; whnf
    conv => lhs; arg 3; whnf
    rw [mid_w hm, e2]
    conv => lhs; whnf
    split
    · rename_i h0
      have h0 : decide (order (xs.getD ((i + j) / 2) g0) g < 0) = true := h0
      conv => lhs; whnf
      rw [succ_w (by omega)]
      refine (hN (xs, g, (i + j) / 2 + 1, j) ⟨by simp only; omega, hj, hb⟩ (by simp only; omega)).trans ?_
      rw [← hf, h0]
      rfl
    · rename_i h0
      have h0 : decide (order (xs.getD ((i + j) / 2) g0) g < 0) = false := h0
      conv => lhs; whnf
      refine (hN (xs, g, i, (i + j) / 2) ⟨by simp only; omega, by simp only; omega, hb⟩ (by simp only; omega)).trans ?_
      rw [← hf, h0]
      rfl
  · have hbs : bsN xs g xs.length i j = i := by
      cases hx : xs.length with
      | zero => rw [bsN]
      | succ n => rw [bsN, if_neg (by omega)]
    rw [hbs] at hf
    conv => lhs; whnf
    rw [lt_f hij]
    conv => lhs; whnf
    exact hf

def bs (xs : List GG) (g : GG) : Nat := bsN xs g xs.length 0 xs.length
def bsHit (xs : List GG) (g : GG) : Bool := decide (bs xs g < xs.length) && (order (xs.getD (bs xs g) g0) g == 0)
theorem bsL_eq (xs : List GG) (g : GG) (K : XK) (hb : xs.length ≤ big) : bsL [.one (.sl G xs none none), .one (.fn 40 [] []), .one (.ptr 100000000 0 none), .one (.int .i64 xs.length), .one (.int .i64 0), .one (.int .i64 xs.length)] [(100000000, .box false (gLeaves g))] K =
    K.exit 0 [.one (.sl G xs none none), .one (.fn 40 [] []), .one (.ptr 100000000 0 none), .one (.int .i64 xs.length), .one (.int .i64 (bs xs g : Nat))] [(100000000, .box false (gLeaves g))] :=
  loopP_eq bsL_inj (x := (xs, g, 0, xs.length)) ⟨Nat.zero_le _, Nat.le_refl _, hb⟩ K
noncomputable def c62 := body (rc [(40, pOrder)] [(3, bsL)] fx62) (codeOf fx62)
theorem c62_ok : COK Try.prog 62 c62 := fn_ok (x := fx62) (H := [(40, pOrder)]) (L := [(3, bsL)]) rfl rfl ⟨order_ok, trivial⟩ (by kernel_rfl) ⟨bsL_ok, trivial⟩
abbrev LK : Ty := .pair I I
def pFind := ansP [.sl G, I, LK] fun x => .tup [.one (.int .i64 (bs x.1 (x.2.1, x.2.2.1, 0) : Nat)), .one (.bool (bsHit x.1 (x.2.1, x.2.2.1, 0)))]
theorem find_ok : COK Try.prog 52 pFind := by
  refine ans_cok (fn_ok (x := fx52) (H := [(62, c62)]) (L := []) rfl rfl ⟨c62_ok, trivial⟩ (by kernel_rfl) trivial) ?_
  rintro ⟨xs, tx, lk, u⟩ k ⟨hb, _⟩
  conv => lhs; whnf
  refine (bsL_eq xs (tx, lk, 0) _ hb.1).trans ?_
  have hle : bs xs (tx, lk, 0) ≤ List.length xs := bsN_le xs (tx, lk, 0) xs.length 0 xs.length (Nat.zero_le _)
  have hh : bsHit xs (tx, lk, 0) = (decide (bs xs (tx, lk, 0) < List.length xs) && (order (xs.getD (bs xs (tx, lk, 0)) g0) (tx, lk, 0) == 0)) := rfl
  show _ = k (.tup [.one (.int .i64 (bs xs (tx, lk, 0) : Nat)), .one (.bool (bsHit xs (tx, lk, 0)))]) []
  generalize bsHit xs (tx, lk, 0) = y at *
  generalize bs xs (tx, lk, 0) = i at *
  conv => lhs; whnf
  rcases Nat.lt_or_ge i xs.length with hlt | hge
  · have e1 := lt_t hlt
    have e2 := ix_t (a := G.width) (b := 4) rfl hlt
    rw [e1]
    conv => lhs; whnf
    conv => lhs; arg 3; whnf
    rw [e2]
    conv => lhs; whnf
    exact ktib (by rw [hh]; simp only [hlt, decide_true, Bool.true_and]; rfl)
  · rw [lt_f hge]
    conv => lhs; whnf
    exact ktib (by rw [hh]; simp [Nat.not_lt.mpr hge])
theorem bsHit_lt {xs : List GG} {g : GG} (h : bsHit xs g = true) : bs xs g < xs.length := by
  simp only [bsHit, Bool.and_eq_true, decide_eq_true_eq] at h
  exact h.1

/-! ### in which mode -/
abbrev TB : Ty := .pair (.sl G) (.sl G)
def modeI (xs : List GG) (tx : Int) (lk : Int × Int) : Int := bif bsHit xs (tx, lk, 0) then (xs.getD (bs xs (tx, lk, 0)) g0).2.2 else 0
def pMode := ansP [TB, I, LK] fun x => .one (.int .i64 (modeI x.1.1 x.2.1 x.2.2.1))
theorem mode_ok : COK Try.prog 31 pMode := by
  refine ans_cok (fn_ok (x := fx31) (H := [(52, pFind)]) (L := []) rfl rfl ⟨find_ok, trivial⟩ (by kernel_rfl) trivial) ?_
  rintro ⟨⟨xs, ws⟩, tx, lk, u⟩ k ⟨hb, _⟩
  have hm : modeI xs tx lk = bif bsHit xs (tx, lk, 0) then (xs.getD (bs xs (tx, lk, 0)) g0).2.2 else 0 := rfl
  show _ = k (.one (.int .i64 (modeI xs tx lk))) []
  generalize modeI xs tx lk = y at *
  conv => lhs; whnf
  split
  · rename_i h0
    have h0 : bsHit xs (tx, lk, 0) = true := h0
    have e2 := ix_t (a := G.width) (b := 4) rfl (bsHit_lt h0)
    conv => lhs; whnf
    split
    · conv => lhs; whnf
      exact kint (by rw [hm, h0]; rfl)
    · rename_i hx
      exact tf e2 hx
  · rename_i h0
    have h0 : bsHit xs (tx, lk, 0) = false := h0
    conv => lhs; whnf
    exact kint (by rw [hm, h0]; rfl)
end Go.Ev.Tab

set_option maxRecDepth 100000
set_option linter.unusedVariables false
namespace Go.Ev.Tab
open Go Go.Ev.X Go.Proofs

/-! ### the first grant of a transaction -/
def idxTx (tx : Int) : List GG → Nat → Option Nat
  | [], _ => none
  | g :: r, n => bif g.1 == tx then some n else idxTx tx r (n + 1)
theorem idxTx_bnd (tx : Int) : ∀ (l : List GG) (n j : Nat), idxTx tx l n = some j → n ≤ j ∧ j < n + l.length
  | [], n, j, h => by simp [idxTx] at h
  | g :: r, n, j, h => by
    simp only [idxTx] at h
    cases hc : g.1 == tx with
    | true => rw [hc] at h; cases h; exact ⟨Nat.le_refl _, by simp⟩
    | false => rw [hc] at h; have := idxTx_bnd tx r (n + 1) j h; simp only [List.length_cons]; omega
theorem box1_inj' {i j : Nat} {r s : Bool} {a b : List Leaf} (h : [(i, Obj.box r a)] = [(j, Obj.box s b)]) : a = b := by cases h; rfl
abbrev oneL (x : Int) : List Leaf := [.int .i64 x]
theorem oneL_inj {x y : Int} (h : oneL x = oneL y) : x = y := by simpa [oneL] using h
abbrev idI (x : Int) : Int := x
abbrev fstG (g : GG) : Int := g.1

/-! ### closure 45 -/
noncomputable def c45 := body (rc [] [] fx45) (codeOf fx45)
theorem c45_ok : COK Try.prog 45 c45 := fn_ok (x := fx45) (H := []) (L := []) rfl rfl trivial (by kernel_rfl) trivial
abbrev ISt45 := List GG × Int × Nat
abbrev ifV45 (x : ISt45) : List AV := [.one (.sl G x.1 none none), .one (.fn 45 [] [0]), .one (.int .i64 x.1.length), .one (.int .i64 x.2.2)]
abbrev ifM45 (x : Int) : Mem := [(0, .box false (oneL x))]
noncomputable def ifL45 := loopP (α := ISt45) ifV45 (fun x => ifM45 x.2.1) (fun x => x.1.length ≤ big)
  (fun x K => match idxTx (idI x.2.1) (x.1.drop x.2.2) x.2.2 with | some j => K.ret [.one (.int .i64 (j : Nat))] (ifM45 x.2.1) | none => K.exit 0 [] (ifM45 x.2.1))
theorem ifL45_inj (x y : ISt45) (h : ifV45 x = ifV45 y) (h' : ifM45 x.2.1 = ifM45 y.2.1) : x = y := by
  simp only [List.cons.injEq] at h
  exact Prod.ext (av_sl_inj h.1) (Prod.ext (oneL_inj (box1_inj' h')) (Int.ofNat.inj (av_int_inj h.2.2.2.1)))
theorem ifL45_ok : LoopOK (rc [(45, c45)] [(2, ifL45)] fx44) (loopB 2 (codeOf fx44)) ifL45 := by
  refine loopP_ok ifL45_inj (fun x => x.1.length - x.2.2) ?_
  rintro ⟨xs, g, i⟩ K r N hb hN hf
  dsimp only at hb hN hf
  rcases Nat.lt_or_ge i xs.length with h | h
  · have e1 := lt_t h
    have e2 := ix_t (a := G.width) (b := 4) rfl h
    rw [drop_nth xs i h, idxTx] at hf
    conv => lhs; whnf
    rw [e1]
    conv => lhs; whnf
    rw [e2]
    conv => lhs; whnf
    rw [getD_nth xs i _ h]
    split
    · rename_i h0
      have h0 : ((xs[i] : GG).1 == idI g) = true := h0
      rw [h0] at hf
      conv => lhs; whnf
      exact hf
    · rename_i h0
      have h0 : ((xs[i] : GG).1 == idI g) = false := h0
      rw [h0] at hf
      conv => lhs; whnf
      rw [succ_w (big_lt h hb)]
      exact (hN (xs, g, i + 1) hb (by simp only; omega)).trans hf
  · rw [List.drop_eq_nil_of_le h, idxTx] at hf
    conv => lhs; whnf
    rw [lt_f h]
    conv => lhs; whnf
    exact hf
theorem ifL45_eq (xs : List GG) (g : Int) (K : XK) (hb : xs.length ≤ big) : ifL45 [.one (.sl G xs none none), .one (.fn 45 [] [0]), .one (.int .i64 xs.length), .one (.int .i64 0)] [(0, .box false (oneL g))] K =
    match idxTx (idI g) xs 0 with | some j => K.ret [.one (.int .i64 (j : Nat))] [(0, .box false (oneL g))] | none => K.exit 0 [] [(0, .box false (oneL g))] :=
  loopP_eq ifL45_inj (x := (xs, g, 0)) hb K
theorem ifL45_none {xs : List GG} {g : Int} (hi : idxTx (idI g) xs 0 = none) (hb : xs.length ≤ big) (K : XK) : ifL45 [.one (.sl G xs none none), .one (.fn 45 [] [0]), .one (.int .i64 xs.length), .one (.int .i64 0)] [(0, .box false (oneL g))] K =
    K.exit 0 [] [(0, .box false (oneL g))] := (ifL45_eq xs g K hb).trans (by rw [hi])
theorem ifL45_some {xs : List GG} {g : Int} {j : Nat} (hi : idxTx (idI g) xs 0 = some j) (hb : xs.length ≤ big) (K : XK) : ifL45 [.one (.sl G xs none none), .one (.fn 45 [] [0]), .one (.int .i64 xs.length), .one (.int .i64 0)] [(0, .box false (oneL g))] K =
    K.ret [.one (.int .i64 (j : Nat))] [(0, .box false (oneL g))] := (ifL45_eq xs g K hb).trans (by rw [hi])
noncomputable def i45 := body (rc [(45, c45)] [(2, ifL45)] fx44) (codeOf fx44)
theorem i45_ok : COK Try.prog 44 i45 := fn_ok (x := fx44) (H := [(45, c45)]) (L := [(2, ifL45)]) rfl rfl ⟨c45_ok, trivial⟩ (by kernel_rfl) ⟨ifL45_ok, trivial⟩

/-! ### closure 51 -/
noncomputable def c51 := body (rc [] [] fx51) (codeOf fx51)
theorem c51_ok : COK Try.prog 51 c51 := fn_ok (x := fx51) (H := []) (L := []) rfl rfl trivial (by kernel_rfl) trivial
abbrev ISt51 := List GG × Int × Nat
abbrev ifV51 (x : ISt51) : List AV := [.one (.sl G x.1 none none), .one (.fn 51 [] [0]), .one (.int .i64 x.1.length), .one (.int .i64 x.2.2)]
abbrev ifM51 (x : Int) : Mem := [(0, .box false (oneL x))]
noncomputable def ifL51 := loopP (α := ISt51) ifV51 (fun x => ifM51 x.2.1) (fun x => x.1.length ≤ big)
  (fun x K => match idxTx (idI x.2.1) (x.1.drop x.2.2) x.2.2 with | some j => K.ret [.one (.int .i64 (j : Nat))] (ifM51 x.2.1) | none => K.exit 0 [] (ifM51 x.2.1))
theorem ifL51_inj (x y : ISt51) (h : ifV51 x = ifV51 y) (h' : ifM51 x.2.1 = ifM51 y.2.1) : x = y := by
  simp only [List.cons.injEq] at h
  exact Prod.ext (av_sl_inj h.1) (Prod.ext (oneL_inj (box1_inj' h')) (Int.ofNat.inj (av_int_inj h.2.2.2.1)))
theorem ifL51_ok : LoopOK (rc [(51, c51)] [(2, ifL51)] fx44) (loopB 2 (codeOf fx44)) ifL51 := by
  refine loopP_ok ifL51_inj (fun x => x.1.length - x.2.2) ?_
  rintro ⟨xs, g, i⟩ K r N hb hN hf
  dsimp only at hb hN hf
  rcases Nat.lt_or_ge i xs.length with h | h
  · have e1 := lt_t h
    have e2 := ix_t (a := G.width) (b := 4) rfl h
    rw [drop_nth xs i h, idxTx] at hf
    conv => lhs; whnf
    rw [e1]
    conv => lhs; whnf
    rw [e2]
    conv => lhs; whnf
    rw [getD_nth xs i _ h]
    split
    · rename_i h0
      have h0 : ((xs[i] : GG).1 == idI g) = true := h0
      rw [h0] at hf
      conv => lhs; whnf
      exact hf
    · rename_i h0
      have h0 : ((xs[i] : GG).1 == idI g) = false := h0
      rw [h0] at hf
      conv => lhs; whnf
      rw [succ_w (big_lt h hb)]
      exact (hN (xs, g, i + 1) hb (by simp only; omega)).trans hf
  · rw [List.drop_eq_nil_of_le h, idxTx] at hf
    conv => lhs; whnf
    rw [lt_f h]
    conv => lhs; whnf
    exact hf
theorem ifL51_eq (xs : List GG) (g : Int) (K : XK) (hb : xs.length ≤ big) : ifL51 [.one (.sl G xs none none), .one (.fn 51 [] [0]), .one (.int .i64 xs.length), .one (.int .i64 0)] [(0, .box false (oneL g))] K =
    match idxTx (idI g) xs 0 with | some j => K.ret [.one (.int .i64 (j : Nat))] [(0, .box false (oneL g))] | none => K.exit 0 [] [(0, .box false (oneL g))] :=
  loopP_eq ifL51_inj (x := (xs, g, 0)) hb K
theorem ifL51_none {xs : List GG} {g : Int} (hi : idxTx (idI g) xs 0 = none) (hb : xs.length ≤ big) (K : XK) : ifL51 [.one (.sl G xs none none), .one (.fn 51 [] [0]), .one (.int .i64 xs.length), .one (.int .i64 0)] [(0, .box false (oneL g))] K =
    K.exit 0 [] [(0, .box false (oneL g))] := (ifL51_eq xs g K hb).trans (by rw [hi])
theorem ifL51_some {xs : List GG} {g : Int} {j : Nat} (hi : idxTx (idI g) xs 0 = some j) (hb : xs.length ≤ big) (K : XK) : ifL51 [.one (.sl G xs none none), .one (.fn 51 [] [0]), .one (.int .i64 xs.length), .one (.int .i64 0)] [(0, .box false (oneL g))] K =
    K.ret [.one (.int .i64 (j : Nat))] [(0, .box false (oneL g))] := (ifL51_eq xs g K hb).trans (by rw [hi])
noncomputable def i51 := body (rc [(51, c51)] [(2, ifL51)] fx44) (codeOf fx44)
theorem i51_ok : COK Try.prog 44 i51 := fn_ok (x := fx44) (H := [(51, c51)]) (L := [(2, ifL51)]) rfl rfl ⟨c51_ok, trivial⟩ (by kernel_rfl) ⟨ifL51_ok, trivial⟩

/-! ### closure 43 -/
noncomputable def c43 := body (rc [] [] fx43) (codeOf fx43)
theorem c43_ok : COK Try.prog 43 c43 := fn_ok (x := fx43) (H := []) (L := []) rfl rfl trivial (by kernel_rfl) trivial
abbrev ISt43 := List GG × GG × Nat
abbrev ifV43 (x : ISt43) : List AV := [.one (.sl G x.1 none none), .one (.fn 43 [] [0]), .one (.int .i64 x.1.length), .one (.int .i64 x.2.2)]
abbrev ifM43 (x : GG) : Mem := [(0, .box false (gLeaves x))]
noncomputable def ifL43 := loopP (α := ISt43) ifV43 (fun x => ifM43 x.2.1) (fun x => x.1.length ≤ big)
  (fun x K => match idxTx (fstG x.2.1) (x.1.drop x.2.2) x.2.2 with | some j => K.ret [.one (.int .i64 (j : Nat))] (ifM43 x.2.1) | none => K.exit 0 [] (ifM43 x.2.1))
theorem ifL43_inj (x y : ISt43) (h : ifV43 x = ifV43 y) (h' : ifM43 x.2.1 = ifM43 y.2.1) : x = y := by
  simp only [List.cons.injEq] at h
  exact Prod.ext (av_sl_inj h.1) (Prod.ext (gLeaves_inj (box1_inj' h')) (Int.ofNat.inj (av_int_inj h.2.2.2.1)))
theorem ifL43_ok : LoopOK (rc [(43, c43)] [(2, ifL43)] fx44) (loopB 2 (codeOf fx44)) ifL43 := by
  refine loopP_ok ifL43_inj (fun x => x.1.length - x.2.2) ?_
  rintro ⟨xs, g, i⟩ K r N hb hN hf
  dsimp only at hb hN hf
  rcases Nat.lt_or_ge i xs.length with h | h
  · have e1 := lt_t h
    have e2 := ix_t (a := G.width) (b := 4) rfl h
    rw [drop_nth xs i h, idxTx] at hf
    conv => lhs; whnf
    rw [e1]
    conv => lhs; whnf
    rw [e2]
    conv => lhs; whnf
    rw [getD_nth xs i _ h]
    split
    · rename_i h0
      have h0 : ((xs[i] : GG).1 == fstG g) = true := h0
      rw [h0] at hf
      conv => lhs; whnf
      exact hf
    · rename_i h0
      have h0 : ((xs[i] : GG).1 == fstG g) = false := h0
      rw [h0] at hf
      conv => lhs; whnf
      rw [succ_w (big_lt h hb)]
      exact (hN (xs, g, i + 1) hb (by simp only; omega)).trans hf
  · rw [List.drop_eq_nil_of_le h, idxTx] at hf
    conv => lhs; whnf
    rw [lt_f h]
    conv => lhs; whnf
    exact hf
theorem ifL43_eq (xs : List GG) (g : GG) (K : XK) (hb : xs.length ≤ big) : ifL43 [.one (.sl G xs none none), .one (.fn 43 [] [0]), .one (.int .i64 xs.length), .one (.int .i64 0)] [(0, .box false (gLeaves g))] K =
    match idxTx (fstG g) xs 0 with | some j => K.ret [.one (.int .i64 (j : Nat))] [(0, .box false (gLeaves g))] | none => K.exit 0 [] [(0, .box false (gLeaves g))] :=
  loopP_eq ifL43_inj (x := (xs, g, 0)) hb K
theorem ifL43_none {xs : List GG} {g : GG} (hi : idxTx (fstG g) xs 0 = none) (hb : xs.length ≤ big) (K : XK) : ifL43 [.one (.sl G xs none none), .one (.fn 43 [] [0]), .one (.int .i64 xs.length), .one (.int .i64 0)] [(0, .box false (gLeaves g))] K =
    K.exit 0 [] [(0, .box false (gLeaves g))] := (ifL43_eq xs g K hb).trans (by rw [hi])
theorem ifL43_some {xs : List GG} {g : GG} {j : Nat} (hi : idxTx (fstG g) xs 0 = some j) (hb : xs.length ≤ big) (K : XK) : ifL43 [.one (.sl G xs none none), .one (.fn 43 [] [0]), .one (.int .i64 xs.length), .one (.int .i64 0)] [(0, .box false (gLeaves g))] K =
    K.ret [.one (.int .i64 (j : Nat))] [(0, .box false (gLeaves g))] := (ifL43_eq xs g K hb).trans (by rw [hi])
noncomputable def i43 := body (rc [(43, c43)] [(2, ifL43)] fx44) (codeOf fx44)
theorem i43_ok : COK Try.prog 44 i43 := fn_ok (x := fx44) (H := [(43, c43)]) (L := [(2, ifL43)]) rfl rfl ⟨c43_ok, trivial⟩ (by kernel_rfl) ⟨ifL43_ok, trivial⟩
end Go.Ev.Tab

set_option maxRecDepth 100000
set_option linter.unusedVariables false
namespace Go.Ev.Tab
open Go Go.Ev.X Go.Proofs

/-! ### sorting: short lists -/
def pLess := ansP [I, I] fun x => .one (.bool (decide (x.1 < x.2.1)))
theorem less_ok : COK Try.prog 72 pLess := by
  refine ans_cok (fn_ok (x := fx72) (H := [(65, pFalse [I])]) (L := []) rfl rfl ⟨isNaN_ok, trivial⟩ (by kernel_rfl) trivial) ?_
  rintro ⟨a, b, u⟩ k hb
  clear hb
  conv => lhs; whnf
  repeat' (split <;> (conv => lhs; whnf))
  all_goals exact kbool (by simp_all)

theorem ixr_t {a b i n : Nat} (hab : Nat.beq a b = true) (h : i < n) : (Nat.beq a b && decide ((0 : Int) ≤ (i : Int)) && decide ((i : Int) < ((View.tail 0).lenN n : Nat))) = true := ix_t hab h
theorem ixl_t {a b i n : Nat} (hab : Nat.beq a b = true) (h : i < n) : (Nat.beq a b && decide (i < n)) = true := by rw [hab]; simp [h]
theorem off_to (j : Nat) : (View.tail 0).off + ((j : Nat) : Int).toNat = j := by simp [View.off]
theorem pred_w {j : Nat} (h : j < 9223372036854775807) : IntKind.i64.wrap (((j + 1 : Nat) : Int) - 1) = (j : Int) := by
  rw [wrap_id (by omega) (by omega)]; omega
abbrev swp (xs : List Int) (j : Nat) : List Int := (xs.set (j + 1) (xs.getD j 0)).set j (xs.getD (j + 1) 0)
def bub : Nat → List Int → List Int
  | 0, xs => xs
  | j + 1, xs => bif decide (xs.getD (j + 1) 0 < xs.getD j 0) then bub j (swp xs j) else xs
theorem bub_len : ∀ (j : Nat) (xs : List Int), (bub j xs).length = xs.length
  | 0, xs => rfl
  | j + 1, xs => by
    rw [bub]
    cases decide (xs.getD (j + 1) 0 < xs.getD j 0) with
    | true => rw [cond_true, bub_len j]; simp
    | false => rfl

structure SI where
  xs : List Int
  i : Nat
  j : Nat
abbrev siV (x : SI) : List AV := [.one (.ref 0 (.tail 0) none), .one (.int .i64 0), .one (.int .i64 x.xs.length), .one (.int .i64 x.i), .one (.int .i64 x.j)]
abbrev arrM (xs : List Int) : Mem := [(0, .arr I xs false)]
noncomputable def siL := loopP siV (fun x => arrM x.xs) (fun x => x.j < x.xs.length ∧ x.xs.length ≤ big)
  (fun x K => K.exit 2 [.one (.ref 0 (.tail 0) none), .one (.int .i64 0), .one (.int .i64 x.xs.length), .one (.int .i64 x.i)] (arrM (bub x.j x.xs)))
theorem arrM_inj {a b : List Int} (h : arrM a = arrM b) : a = b := by cases h; rfl
theorem siL_inj (x y : SI) (h : siV x = siV y) (h' : arrM x.xs = arrM y.xs) : x = y := by
  obtain ⟨xs, i, j⟩ := x
  obtain ⟨xs', i', j'⟩ := y
  have h' := arrM_inj h'
  dsimp only at h'
  subst h'
  simp_all [siV]
  omega
def insN (n : Nat) : Nat → List Int → Nat → List Int
  | 0, xs, i => xs
  | f + 1, xs, i => if i < n then insN n f (bub i xs) (i + 1) else xs
structure SO where
  xs : List Int
  i : Nat
def soV : Option SO → List AV
  | some x => [.one (.ref 0 (.tail 0) none), .one (.int .i64 0), .one (.int .i64 x.xs.length), .one (.int .i64 x.i)]
  | none => [.one (.sl I [] (some true) (some 0)), .one (.int .i64 0), .one (.int .i64 0), .one (.int .i64 1)]
def soM : Option SO → Mem
  | some x => arrM x.xs
  | none => []
noncomputable def soL := loopP soV soM (fun x => ∀ y, x = some y → y.xs.length ≤ big)
  (fun x K => match x with | some x => K.exit 0 [] (arrM (insN x.xs.length (x.xs.length - x.i) x.xs x.i)) | none => K.exit 0 [] [])
theorem siL_ok : LoopOK (rc [(72, pLess)] [(1, soL), (4, siL)] fx66) (loopB 4 (codeOf fx66)) siL := by
  refine loopP_ok siL_inj (fun x => x.j) ?_
  rintro ⟨xs, i, j⟩ K r N ⟨hj, hb⟩ hN hf
  dsimp only at hj hb hN hf
  cases j with
  | zero =>
    conv => lhs; whnf
    exact hf
  | succ j =>
    have e2 := ixr_t (a := I.width) (b := 1) rfl hj
    have e3 := ixr_t (a := I.width) (b := 1) rfl (show j < xs.length by omega)
    have e1 : decide (((j + 1 : Nat) : Int) > 0) = true := by simp
    conv => lhs; whnf
    rw [e1]
    have e2s : (Nat.beq I.width I.width && decide (j + 1 < xs.length) && !mem? 0 []) = true := by rw [ixl_t rfl hj]; rfl
    have e3s : ∀ y, (Nat.beq I.width I.width && decide (j < (xs.set (j + 1) y).length) && !mem? 0 []) = true := fun y => by rw [ixl_t rfl (by rw [List.length_set]; omega)]; rfl
    have e3t : ∀ y, (Nat.beq I.width 1 && decide (0 ≤ (j : Int)) && decide ((j : Int) < ((View.tail 0).lenN (xs.set (j + 1) y).length : Nat))) = true := fun y => ixr_t rfl (by rw [List.length_set]; omega)
    have e2' := ixl_t (a := I.width) (b := I.width) rfl hj
    have e3' := ixl_t (a := I.width) (b := I.width) rfl (show j < xs.length by omega)
    conv => lhs; whnf
    conv => lhs; arg 3; whnf
    rw [e2, off_to]
    conv => lhs; whnf
    conv => lhs; arg 3; whnf
    rw [e2']
    conv => lhs; whnf
    conv => lhs; arg 3; whnf
    rw [pred_w (show j < 9223372036854775807 by unfold big at hb; omega), e3, off_to]
    conv => lhs; whnf
    conv => lhs; arg 3; whnf
    rw [e3']
    conv => lhs; whnf
    split
    · rename_i h0
      have h0 : decide (xs.getD (j + 1) 0 < xs.getD j 0) = true := h0
      conv => lhs; whnf
      conv => lhs; arg 3; whnf
      rw [pred_w (show j < 9223372036854775807 by unfold big at hb; omega), e3, off_to]
      conv => lhs; whnf
      conv => lhs; arg 3; whnf
      rw [e3']
      conv => lhs; whnf
      conv => lhs; arg 3; whnf
      rw [e2, off_to]
      conv => lhs; whnf
      conv => lhs; arg 3; whnf
      rw [e2']
      conv => lhs; whnf
      conv => lhs; arg 3; whnf
      rw [e2, off_to]
      conv => lhs; whnf
      conv => lhs; arg 3; whnf
      split
      rotate_left
      · rename_i hx
        exact tf e2s hx
      · conv => lhs; whnf
        conv => lhs; arg 3; whnf
        rw [e3t, off_to]
        conv => lhs; whnf
        conv => lhs; arg 3; whnf
        split
        rotate_left
        · rename_i hx
          exact tf (e3s _) hx
        · conv => lhs; whnf
          rw [pred_w (show j < 9223372036854775807 by unfold big at hb; omega)]
          rw [bub, h0, cond_true] at hf
          have hl : (swp xs j).length = xs.length := by simp
          have h3 := hN ⟨swp xs j, i, j⟩ ⟨by dsimp only; rw [hl]; omega, by dsimp only; rw [hl]; exact hb⟩ (Nat.lt_succ_self j)
          dsimp only [siV] at h3
          rw [hl] at h3
          exact h3.trans hf
    · rename_i h0
      have h0 : decide (xs.getD (j + 1) 0 < xs.getD j 0) = false := h0
      conv => lhs; whnf
      rw [bub, h0] at hf
      exact hf

theorem soL_inj (x y : Option SO) (h : soV x = soV y) (h' : soM x = soM y) : x = y := by
  cases x with
  | none => cases y with
    | none => rfl
    | some y => simp [soM] at h'
  | some x => cases y with
    | none => simp [soM] at h'
    | some y =>
      obtain ⟨xs, i⟩ := x
      obtain ⟨xs', i'⟩ := y
      have h' := arrM_inj h'
      dsimp only at h'
      subst h'
      simp_all [soV]
      omega
theorem siL_eq (xs : List Int) (i j : Nat) (h : j < xs.length ∧ xs.length ≤ big) (K : XK) : siL [.one (.ref 0 (.tail 0) none), .one (.int .i64 0), .one (.int .i64 xs.length), .one (.int .i64 i), .one (.int .i64 j)] [(0, .arr I xs false)] K =
    K.exit 2 [.one (.ref 0 (.tail 0) none), .one (.int .i64 0), .one (.int .i64 xs.length), .one (.int .i64 i)] [(0, .arr I (bub j xs) false)] :=
  loopP_eq siL_inj (x := ⟨xs, i, j⟩) h K
theorem soL_ok : LoopOK (rc [(72, pLess)] [(1, soL), (4, siL)] fx66) (loopB 1 (codeOf fx66)) soL := by
  refine loopP_ok soL_inj (fun x => match x with | some x => x.xs.length - x.i | none => 0) ?_
  rintro (_ | ⟨xs, i⟩) K r N hb hN hf
  · conv => lhs; whnf
    exact hf
  have hb : xs.length ≤ big := hb ⟨xs, i⟩ rfl
  dsimp only at hN hf
  rcases Nat.lt_or_ge i xs.length with h | h
  · have e1 := lt_t h
    conv => lhs; whnf
    rw [e1]
    conv => lhs; whnf
    refine (siL_eq xs i i ⟨h, hb⟩ _).trans ?_
    conv => lhs; whnf
    rw [succ_w (big_lt h hb)]
    have hl := bub_len i xs
    have h3 := hN (some ⟨bub i xs, i + 1⟩) (by rintro y ⟨⟩; dsimp only; rw [hl]; exact hb) (by dsimp only; rw [hl]; omega)
    dsimp only [soV, soM] at h3
    rw [hl] at h3
    obtain ⟨n, hn⟩ : ∃ n, xs.length - i = n + 1 := ⟨xs.length - i - 1, by omega⟩
    rw [hn, insN, if_pos h] at hf
    rw [show xs.length - (i + 1) = n by omega] at h3
    exact h3.trans hf
  · rw [show xs.length - i = 0 by omega, insN] at hf
    conv => lhs; whnf
    rw [lt_f h]
    conv => lhs; whnf
    exact hf
theorem soL_eq (xs : List Int) (i : Nat) (h : xs.length ≤ big) (K : XK) : soL [.one (.ref 0 (.tail 0) none), .one (.int .i64 0), .one (.int .i64 xs.length), .one (.int .i64 i)] [(0, .arr I xs false)] K =
    K.exit 0 [] [(0, .arr I (insN xs.length (xs.length - i) xs i) false)] :=
  loopP_eq soL_inj (x := some ⟨xs, i⟩) (by rintro y ⟨⟩; exact h) K
theorem soL_nil (K : XK) : soL [.one (.sl I [] (some true) (some 0)), .one (.int .i64 0), .one (.int .i64 0), .one (.int .i64 1)] [] K = K.exit 0 [] [] :=
  loopP_eq soL_inj (x := none) (by rintro y ⟨⟩) K
noncomputable def c66 := body (rc [(72, pLess)] [(1, soL), (4, siL)] fx66) (codeOf fx66)
theorem c66_ok : COK Try.prog 66 c66 := fn_ok (x := fx66) (H := [(72, pLess)]) (L := [(1, soL), (4, siL)]) rfl rfl ⟨less_ok, trivial⟩ (by kernel_rfl) ⟨soL_ok, siL_ok, trivial⟩
end Go.Ev.Tab

set_option maxRecDepth 100000
set_option linter.unusedVariables false
namespace Go.Ev.Tab
open Go Go.Ev.X Go.Proofs

abbrev U : Ty := .int .u64
def lenS (n : Int) : Int := if n < 1 then 0 else if n < 2 then 1 else if n < 4 then 2 else if n < 8 then 3 else 4
def pLen := pureP [U] fun x k => bif decide (0 ≤ x.1) && decide (x.1 ≤ 12) then k (.one (.int .i64 (lenS x.1))) [] else none
noncomputable def c76 := body (rc [] [] fx76) (codeOf fx76)
theorem c76_ok : COK Try.prog 76 c76 := fn_ok (x := fx76) (H := []) (L := []) rfl rfl trivial (by kernel_rfl) trivial
theorem len_ok : COK Try.prog 61 pLen := by
  refine pure_cok (fn_ok (x := fx61) (H := [(76, c76)]) (L := []) rfl rfl ⟨c76_ok, trivial⟩ (by kernel_rfl) trivial) ?_
  rintro ⟨n, u⟩ k r hb h
  dsimp only at h
  cases hn : decide (0 ≤ n) && decide (n ≤ 12) with
  | false => rw [hn] at h; cases h
  | true =>
    rw [hn, cond_true] at h
    simp only [Bool.and_eq_true, decide_eq_true_eq] at hn
    have key : ∀ n : Int, 0 ≤ n ∧ n ≤ 12 → n = 0 ∨ n = 1 ∨ n = 2 ∨ n = 3 ∨ n = 4 ∨ n = 5 ∨ n = 6 ∨ n = 7 ∨ n = 8 ∨ n = 9 ∨ n = 10 ∨ n = 11 ∨ n = 12 := by omega
    rcases key n hn with rfl | rfl | rfl | rfl | rfl | rfl | rfl | rfl | rfl | rfl | rfl | rfl | rfl
    all_goals (conv => lhs; whnf)
    all_goals exact h

def sortI (xs : List Int) : List Int := insN xs.length (xs.length - 1) xs 1
def pqV : List Int × Int ⊕ Int → List AV
  | .inl x => [.one (.ref 0 (.tail 0) none), .one (.int .i64 0), .one (.int .i64 x.1.length), .one (.int .i64 x.2), .one (.bool true), .one (.bool true)]
  | .inr i => [.one (.sl I [] (some true) (some 0)), .one (.int .i64 0), .one (.int .i64 0), .one (.int .i64 i), .one (.bool true), .one (.bool true)]
def pqM : List Int × Int ⊕ Int → Mem
  | .inl x => arrM x.1
  | .inr _ => []
noncomputable def pqL := loopP pqV pqM (fun x => ∀ y, x = .inl y → y.1.length ≤ 12) (fun x K => match x with | .inl x => K.ret [] (arrM (sortI x.1)) | .inr _ => K.ret [] [])
theorem pqL_inj (x y : List Int × Int ⊕ Int) (h : pqV x = pqV y) (h' : pqM x = pqM y) : x = y := by
  cases x with
  | inr x => cases y with
    | inr y => simp_all [pqV]
    | inl y => simp [pqM] at h'
  | inl x => cases y with
    | inr y => simp [pqM] at h'
    | inl y =>
      obtain ⟨xs, i⟩ := x
      obtain ⟨xs', i'⟩ := y
      have h' := arrM_inj h'
      dsimp only at h'
      subst h'
      simp_all [pqV]
theorem pqL_ok : LoopOK (rc [(66, c66)] [(2, pqL)] fx60) (loopB 2 (codeOf fx60)) pqL := by
  refine loopP_ok pqL_inj (fun x => 0) ?_
  rintro (⟨xs, lim⟩ | lim) K r N hb hN hf
  rotate_left
  · conv => lhs; whnf
    refine (soL_nil _).trans ?_
    conv => lhs; whnf
    exact hf
  have hb : xs.length ≤ 12 := hb ⟨xs, lim⟩ rfl
  dsimp only at hN hf
  have e1 : decide (IntKind.i64.wrap ((xs.length : Int) - 0) ≤ 12) = true := by rw [wrap_id (by omega) (by omega)]; simp; omega
  conv => lhs; whnf
  rw [e1]
  conv => lhs; whnf
  refine (soL_eq xs 1 (by unfold big; omega) _).trans ?_
  conv => lhs; whnf
  exact hf
theorem pqL_eq (xs : List Int) (i : Int) (h : xs.length ≤ 12) (K : XK) : pqL [.one (.ref 0 (.tail 0) none), .one (.int .i64 0), .one (.int .i64 xs.length), .one (.int .i64 i), .one (.bool true), .one (.bool true)] [(0, .arr I xs false)] K =
    K.ret [] [(0, .arr I (sortI xs) false)] :=
  loopP_eq pqL_inj (x := .inl ⟨xs, i⟩) (by rintro y ⟨⟩; exact h) K
theorem pqL_nil (i : Int) (K : XK) : pqL [.one (.sl I [] (some true) (some 0)), .one (.int .i64 0), .one (.int .i64 0), .one (.int .i64 i), .one (.bool true), .one (.bool true)] [] K = K.ret [] [] :=
  loopP_eq pqL_inj (x := .inr i) (by rintro y ⟨⟩) K
noncomputable def c60 := body (rc [(66, c66)] [(2, pqL)] fx60) (codeOf fx60)
theorem c60_ok : COK Try.prog 60 c60 := fn_ok (x := fx60) (H := [(66, c66)]) (L := [(2, pqL)]) rfl rfl ⟨c66_ok, trivial⟩ (by kernel_rfl) ⟨pqL_ok, trivial⟩
noncomputable def b47 := body (rc [(60, c60), (61, pLen)] [] fx47) (codeOf fx47)
theorem b47_ok : COK Try.prog 47 b47 := fn_ok (x := fx47) (H := [(60, c60), (61, pLen)]) (L := []) rfl rfl ⟨c60_ok, len_ok, trivial⟩ (by kernel_rfl) trivial
noncomputable def c47 := hide b47
theorem c47_ok : COK Try.prog 47 c47 := by unfold c47; rw [hide_eq]; exact b47_ok
theorem b47_eq (xs : List Int) (h : xs.length ≤ 12) (k : AK) : b47 [.one (.ref 0 (.tail 0) none)] [(0, .arr I xs false)] k = k (.tup []) [(0, .arr I (sortI xs) false)] := by
  have hu : IntKind.u64.wrap ((xs.length : Nat) : Int) = (xs.length : Int) := by
    unfold IntKind.wrap
    simp only [IntKind.signed, IntKind.bits]
    simp
    omega
  have e2 : (decide (0 ≤ IntKind.u64.wrap ((xs.length : Nat) : Int)) && decide (IntKind.u64.wrap ((xs.length : Nat) : Int) ≤ 12)) = true := by rw [hu]; simp; omega
  conv => lhs; whnf
  split
  · conv => lhs; whnf
    refine (pqL_eq xs _ h _).trans ?_
    conv => lhs; whnf
  · rename_i hx
    exact tf e2 hx
theorem b47_nil (k : AK) : b47 [.one (.sl I [] (some true) (some 0))] [] k = k (.tup []) [] := by
  conv => lhs; whnf
  refine (pqL_nil _ _).trans ?_
  conv => lhs; whnf
theorem c47_eq (xs : List Int) (h : xs.length ≤ 12) (k : AK) : c47 [.one (.ref 0 (.tail 0) none)] [(0, .arr I xs false)] k = k (.tup []) [(0, .arr I (sortI xs) false)] := by
  unfold c47; rw [hide_eq]; exact b47_eq xs h k
theorem c47_nil (k : AK) : c47 [.one (.sl I [] (some true) (some 0))] [] k = k (.tup []) [] := by
  unfold c47; rw [hide_eq]; exact b47_nil k
noncomputable def c48 := body (rc [] [] fx48) (codeOf fx48)
theorem c48_ok : COK Try.prog 48 c48 := fn_ok (x := fx48) (H := []) (L := []) rfl rfl trivial (by kernel_rfl) trivial
end Go.Ev.Tab

set_option maxRecDepth 100000
set_option linter.unusedVariables false
namespace Go.Ev.Tab
open Go Go.Ev.X Go.Proofs

/-! ### who blocks -/
def blk (w : GG) (l : List GG) : List Int := (l.filter fun g => conflict g w).map (·.1)
theorem blk_cons (w g : GG) (l : List GG) : blk w (g :: l) = bif conflict g w then g.1 :: blk w l else blk w l := by
  unfold blk
  rw [List.filter_cons]
  cases conflict g w <;> simp
abbrev nilI : AV := .one (.sl I [] (some true) (some 0))
def outV : List Int → AV
  | [] => nilI
  | _ :: _ => .one (.ref 100000001 (.tail 0) none)
def outM (xs ws l0 l1 : List GG) : List Int → Mem
  | [] => [(100000000, .box false [.sl G xs none none, .sl G ws none none]), (100000001, .arr (.sl G) [l0, l1] false)]
  | o :: os => [(100000000, .box false [.sl G xs none none, .sl G ws none none]), (100000001, .arr I (o :: os) false), (100000002, .arr (.sl G) [l0, l1] false)]
def outR : List Int → AV
  | [] => .one (.ref 100000001 (.tail 0) (some 2))
  | _ :: _ => .one (.ref 100000002 (.tail 0) (some 2))
structure BI where
  xs : List GG
  ws : List GG
  l0 : List GG
  l1 : List GG
  out : List Int
  i : Nat
  k : Nat
  l : List GG
  at' : Nat
abbrev biV (x : BI) : List AV := [.one (.ptr 100000000 0 none), .one (.int .i64 x.i), outV x.out, outR x.out, .one (.int .i64 2), .one (.int .i64 x.k), .one (.sl G x.l none none), .one (.int .i64 x.l.length), .one (.int .i64 x.at')]
abbrev biM (x : BI) : Mem := outM x.xs x.ws x.l0 x.l1 x.out
abbrev wOf (ws : List GG) (i : Nat) : GG := ws.getD i g0
abbrev boV (x : BI) (out : List Int) : List AV := [.one (.ptr 100000000 0 none), .one (.int .i64 x.i), outV out, outR out, .one (.int .i64 2), .one (.int .i64 x.k)]
noncomputable def biL := loopP biV biM (fun x => x.i < x.ws.length ∧ x.out.length + (x.l.length - x.at') ≤ 1073741824 ∧ x.l.length ≤ big)
  (fun x K => K.exit 2 (boV x (x.out ++ blk (wOf x.ws x.i) (x.l.drop x.at'))) (outM x.xs x.ws x.l0 x.l1 (x.out ++ blk (wOf x.ws x.i) (x.l.drop x.at'))))
theorem biL_inj (x y : BI) (h : biV x = biV y) (h' : biM x = biM y) : x = y := by
  obtain ⟨xs, ws, l0, l1, out, i, k, l, a⟩ := x
  obtain ⟨xs', ws', l0', l1', out', i', k', l', a'⟩ := y
  cases out <;> cases out' <;> simp_all [biM, outV, outR, outM] <;> omega
structure BO where
  xs : List GG
  ws : List GG
  l0 : List GG
  l1 : List GG
  out : List Int
  i : Nat
  k : Nat
abbrev booV (x : BO) : List AV := [.one (.ptr 100000000 0 none), .one (.int .i64 x.i), outV x.out, outR x.out, .one (.int .i64 2), .one (.int .i64 x.k)]
abbrev booM (x : BO) : Mem := outM x.xs x.ws x.l0 x.l1 x.out
def oV : List Int → AV
  | [] => nilI
  | _ :: _ => .one (.ref 100000000 (.tail 0) none)
def oM : List Int → Mem
  | [] => []
  | o :: os => [(100000000, .arr I (o :: os) false)]
def rest (w : GG) (l0 l1 : List GG) : Nat → List Int
  | 0 => blk w l0 ++ blk w l1
  | 1 => blk w l1
  | _ => []
theorem rest_0 (w : GG) (l0 l1 : List GG) : rest w l0 l1 0 = blk w l0 ++ rest w l0 l1 1 := rfl
theorem rest_1 (w : GG) (l0 l1 : List GG) : rest w l0 l1 1 = blk w l1 ++ rest w l0 l1 2 := (List.append_nil _).symm
theorem blk_len (w : GG) (l : List GG) : (blk w l).length ≤ l.length := by unfold blk; rw [List.length_map]; exact List.length_filter_le _ _
def capB : Nat → Nat
  | 0 => 0
  | 1 => 1048576
  | _ => 2097152
noncomputable def boL := loopP booV booM (fun x => x.i < x.ws.length ∧ x.k ≤ 2 ∧ x.out.length ≤ capB x.k ∧ x.l0.length ≤ 1048576 ∧ x.l1.length ≤ 1048576)
  (fun x K => K.exit 0 [oV (x.out ++ rest (wOf x.ws x.i) x.l0 x.l1 x.k)] (oM (x.out ++ rest (wOf x.ws x.i) x.l0 x.l1 x.k)))
theorem biL_ok : LoopOK (rc [(44, i45), (46, pConflict), (47, c47), (48, c48)] [(6, boL), (9, biL)] fx20) (loopB 9 (codeOf fx20)) biL := by
  refine loopP_ok biL_inj (fun x => x.l.length - x.at') ?_
  rintro ⟨xs, ws, l0, l1, out, i, k, l, idx⟩ K r N ⟨hi, ho, hb⟩ hN hf
  dsimp only at hi ho hb hN hf
  rcases Nat.lt_or_ge idx l.length with h1 | h1
  · have e1 := lt_t h1
    have e2 := ix_t (a := G.width) (b := 4) rfl h1
    have e3 := ix_t (a := G.width) (b := 4) rfl hi
    rw [drop_nth l idx h1, blk_cons] at hf
    have hg : l.getD idx g0 = l[idx] := by simp [List.getD_eq_getElem?_getD, h1]
    rw [← hg] at hf
    cases out with
    | nil =>
      conv => lhs; whnf
      rw [e1]
      conv => lhs; whnf
      rw [e2]
      conv => lhs; whnf
      conv => lhs; arg 3; whnf
      rw [e3]
      conv => lhs; whnf
      split
      · rename_i h0
        have h0 : conflict (l.getD idx g0) (wOf ws i) = true := h0
        rw [h0] at hf
        conv => lhs; whnf
        rw [succ_w (big_lt h1 hb)]
        refine (hN ⟨xs, ws, l0, l1, [(l.getD idx g0).1], i, k, l, idx + 1⟩ ⟨hi, by simp only [List.length_cons, List.length_nil] at ho ⊢; omega, hb⟩ (by simp only; omega)).trans hf
      · rename_i h0
        have h0 : conflict (l.getD idx g0) (wOf ws i) = false := h0
        rw [h0] at hf
        conv => lhs; whnf
        rw [succ_w (big_lt h1 hb)]
        refine (hN ⟨xs, ws, l0, l1, [], i, k, l, idx + 1⟩ ⟨hi, by simp only at ho ⊢; omega, hb⟩ (by simp only; omega)).trans hf
    | cons o os =>
      have e4 : (decide (((o :: os) ++ [(l.getD idx g0).1]).length * 8 ≤ 70368744177664) && decide (((o :: os) ++ [(l.getD idx g0).1]).length ≤ 1099511627776)) = true := by simp only [List.length_cons] at ho; simp; omega
      conv => lhs; whnf
      rw [e1]
      conv => lhs; whnf
      rw [e2]
      conv => lhs; whnf
      conv => lhs; arg 3; whnf
      rw [e3]
      conv => lhs; whnf
      split
      · rename_i h0
        have h0 : conflict (l.getD idx g0) (wOf ws i) = true := h0
        rw [h0] at hf
        conv => lhs; whnf
        split
        · conv => lhs; whnf
          rw [succ_w (big_lt h1 hb)]
          simp only [cond_true] at hf
          rw [List.append_cons] at hf
          refine (hN ⟨xs, ws, l0, l1, (o :: os) ++ [(l.getD idx g0).1], i, k, l, idx + 1⟩ ⟨hi, by simp only [List.length_append, List.length_cons, List.length_nil] at ho ⊢; omega, hb⟩ (by simp only; omega)).trans hf
        · rename_i hx
          exact tf e4 hx
      · rename_i h0
        have h0 : conflict (l.getD idx g0) (wOf ws i) = false := h0
        rw [h0] at hf
        conv => lhs; whnf
        rw [succ_w (big_lt h1 hb)]
        refine (hN ⟨xs, ws, l0, l1, o :: os, i, k, l, idx + 1⟩ ⟨hi, by simp only at ho ⊢; omega, hb⟩ (by simp only; omega)).trans hf
  · rw [List.drop_eq_nil_of_le h1] at hf
    simp only [blk, List.filter_nil, List.map_nil, List.append_nil] at hf
    cases out with
    | nil =>
      conv => lhs; whnf
      rw [lt_f h1]
      conv => lhs; whnf
      exact hf
    | cons o os =>
      conv => lhs; whnf
      rw [lt_f h1]
      conv => lhs; whnf
      exact hf
end Go.Ev.Tab

set_option maxRecDepth 100000
set_option linter.unusedVariables false
namespace Go.Ev.Tab
open Go Go.Ev.X Go.Proofs

theorem biL_eq (x : BI) (hx : x.i < x.ws.length ∧ x.out.length + (x.l.length - x.at') ≤ 1073741824 ∧ x.l.length ≤ big) (h0 : x.at' = 0) (K : XK) : biL (biV x) (biM x) K =
    K.exit 2 (boV x (x.out ++ blk (wOf x.ws x.i) x.l)) (outM x.xs x.ws x.l0 x.l1 (x.out ++ blk (wOf x.ws x.i) x.l)) := by
  refine (loopP_eq biL_inj hx K).trans ?_
  rw [h0, List.drop_zero]

theorem boL_inj (x y : BO) (h : booV x = booV y) (h' : booM x = booM y) : x = y := by
  obtain ⟨xs, ws, l0, l1, out, i, k⟩ := x
  obtain ⟨xs', ws', l0', l1', out', i', k'⟩ := y
  cases out <;> cases out' <;> simp_all [booM, outV, outR, outM] <;> omega
theorem boL_ok : LoopOK (rc [(44, i45), (46, pConflict), (47, c47), (48, c48)] [(6, boL), (9, biL)] fx20) (loopB 6 (codeOf fx20)) boL := by
  refine loopP_ok boL_inj (fun x => 2 - x.k) ?_
  rintro ⟨xs, ws, l0, l1, out, i, k⟩ K r N ⟨hi, hk, ho, hb0, hb1⟩ hN hf
  dsimp only at hi hk ho hb0 hb1 hN hf
  obtain rfl | rfl | rfl : k = 0 ∨ k = 1 ∨ k = 2 := by omega
  · -- 0
    cases out with
    | nil =>
      conv => lhs; whnf
      refine (biL_eq ⟨xs, ws, l0, l1, [], i, 0, l0, 0⟩ ⟨hi, by simp only [capB, List.length_nil] at ho ⊢; omega, by unfold big; simp only; omega⟩ rfl _).trans ?_
      rw [rest_0, ← List.append_assoc] at hf
      have hO2 : ([] ++ blk (wOf ws i) l0).length ≤ capB (0 + 1) := by
        have := blk_len (wOf ws i) l0
        simp only [capB, List.length_append, List.length_cons, List.length_nil] at ho ⊢; omega
      generalize [] ++ blk (wOf ws i) l0 = O at *
      cases O with
      | nil =>
        conv => lhs; whnf
        exact (hN ⟨xs, ws, l0, l1, [], i, 0 + 1⟩ ⟨hi, by simp only; omega, hO2, hb0, hb1⟩ (by simp only; omega)).trans hf
      | cons p ps =>
        conv => lhs; whnf
        exact (hN ⟨xs, ws, l0, l1, p :: ps, i, 0 + 1⟩ ⟨hi, by simp only; omega, hO2, hb0, hb1⟩ (by simp only; omega)).trans hf
    | cons o os =>
      conv => lhs; whnf
      refine (biL_eq ⟨xs, ws, l0, l1, o :: os, i, 0, l0, 0⟩ ⟨hi, by simp only [capB, List.length_cons] at ho ⊢; omega, by unfold big; simp only; omega⟩ rfl _).trans ?_
      rw [rest_0, ← List.append_assoc] at hf
      have hO2 : (o :: os ++ blk (wOf ws i) l0).length ≤ capB (0 + 1) := by
        have := blk_len (wOf ws i) l0
        simp only [capB, List.length_append, List.length_cons, List.length_nil] at ho ⊢; omega
      generalize o :: os ++ blk (wOf ws i) l0 = O at *
      cases O with
      | nil =>
        conv => lhs; whnf
        exact (hN ⟨xs, ws, l0, l1, [], i, 0 + 1⟩ ⟨hi, by simp only; omega, hO2, hb0, hb1⟩ (by simp only; omega)).trans hf
      | cons p ps =>
        conv => lhs; whnf
        exact (hN ⟨xs, ws, l0, l1, p :: ps, i, 0 + 1⟩ ⟨hi, by simp only; omega, hO2, hb0, hb1⟩ (by simp only; omega)).trans hf
  · -- 1
    cases out with
    | nil =>
      conv => lhs; whnf
      refine (biL_eq ⟨xs, ws, l0, l1, [], i, 1, l1, 0⟩ ⟨hi, by simp only [capB, List.length_nil] at ho ⊢; omega, by unfold big; simp only; omega⟩ rfl _).trans ?_
      rw [rest_1, ← List.append_assoc] at hf
      have hO2 : ([] ++ blk (wOf ws i) l1).length ≤ capB (1 + 1) := by
        have := blk_len (wOf ws i) l1
        simp only [capB, List.length_append, List.length_cons, List.length_nil] at ho ⊢; omega
      generalize [] ++ blk (wOf ws i) l1 = O at *
      cases O with
      | nil =>
        conv => lhs; whnf
        exact (hN ⟨xs, ws, l0, l1, [], i, 1 + 1⟩ ⟨hi, by simp only; omega, hO2, hb0, hb1⟩ (by simp only; omega)).trans hf
      | cons p ps =>
        conv => lhs; whnf
        exact (hN ⟨xs, ws, l0, l1, p :: ps, i, 1 + 1⟩ ⟨hi, by simp only; omega, hO2, hb0, hb1⟩ (by simp only; omega)).trans hf
    | cons o os =>
      conv => lhs; whnf
      refine (biL_eq ⟨xs, ws, l0, l1, o :: os, i, 1, l1, 0⟩ ⟨hi, by simp only [capB, List.length_cons] at ho ⊢; omega, by unfold big; simp only; omega⟩ rfl _).trans ?_
      rw [rest_1, ← List.append_assoc] at hf
      have hO2 : (o :: os ++ blk (wOf ws i) l1).length ≤ capB (1 + 1) := by
        have := blk_len (wOf ws i) l1
        simp only [capB, List.length_append, List.length_cons, List.length_nil] at ho ⊢; omega
      generalize o :: os ++ blk (wOf ws i) l1 = O at *
      cases O with
      | nil =>
        conv => lhs; whnf
        exact (hN ⟨xs, ws, l0, l1, [], i, 1 + 1⟩ ⟨hi, by simp only; omega, hO2, hb0, hb1⟩ (by simp only; omega)).trans hf
      | cons p ps =>
        conv => lhs; whnf
        exact (hN ⟨xs, ws, l0, l1, p :: ps, i, 1 + 1⟩ ⟨hi, by simp only; omega, hO2, hb0, hb1⟩ (by simp only; omega)).trans hf
  · -- 2
    cases out with
    | nil =>
      conv => lhs; whnf
      exact hf
    | cons o os =>
      conv => lhs; whnf
      simp only [rest, List.append_nil] at hf
      exact hf
end Go.Ev.Tab

set_option maxRecDepth 100000
set_option linter.unusedVariables false
namespace Go.Ev.Tab
open Go Go.Ev.X Go.Proofs

theorem boL_eq (x : BO) (hx : x.i < x.ws.length ∧ x.k ≤ 2 ∧ x.out.length ≤ capB x.k ∧ x.l0.length ≤ 1048576 ∧ x.l1.length ≤ 1048576) (K : XK) : boL (booV x) (booM x) K =
    K.exit 0 [oV (x.out ++ rest (wOf x.ws x.i) x.l0 x.l1 x.k)] (oM (x.out ++ rest (wOf x.ws x.i) x.l0 x.l1 x.k)) :=
  loopP_eq boL_inj hx K
/-- What comes out: nothing, or a list. -/
def outA : List Int → AV
  | [] => nilI
  | o :: os => .one (.sl I (sortI (o :: os)) none none)
def blks (xs ws : List GG) (j : Nat) : List Int := blk (ws.getD j g0) xs ++ blk (ws.getD j g0) (ws.take j)
def pBlk := pureP [TB, I] fun x k =>
  bif decide (x.1.1.length ≤ 1048576) && decide (x.1.2.length ≤ 1048576) then
    match idxTx x.2.1 x.1.2 0 with
    | none => k nilI []
    | some j => bif decide ((blks x.1.1 x.1.2 j).length ≤ 1) then k (outA (blks x.1.1 x.1.2 j)) [] else none
  else none
theorem boL_start (xs ws : List GG) (j : Nat) (hj : j < ws.length) (h0 : xs.length ≤ 1048576) (h1 : ws.length ≤ 1048576) (K : XK) : boL (booV ⟨xs, ws, xs, ws.take j, [], j, 0⟩) (booM ⟨xs, ws, xs, ws.take j, [], j, 0⟩) K =
    K.exit 0 [oV (blks xs ws j)] (oM (blks xs ws j)) :=
  boL_eq ⟨xs, ws, xs, ws.take j, [], j, 0⟩ ⟨hj, by simp, by simp [capB], h0, by simp only [List.length_take]; omega⟩ K
theorem blk_ok : COK Try.prog 20 pBlk := by
  refine pure_cok (fn_ok (x := fx20) (H := [(44, i45), (46, pConflict), (47, c47), (48, c48)]) (L := [(6, boL), (9, biL)]) rfl rfl ⟨i45_ok, conflict_ok, c47_ok, c48_ok, trivial⟩ (by kernel_rfl) ⟨boL_ok, biL_ok, trivial⟩) ?_
  rintro ⟨⟨xs, ws⟩, tx, u⟩ k r ⟨⟨hb0, hb1⟩, _⟩ h
  have hb : List.length ws ≤ big := hb1.1
  dsimp only at h
  cases hn : decide (List.length xs ≤ 1048576) && decide (List.length ws ≤ 1048576) with
  | false => rw [hn] at h; cases h
  | true =>
    rw [hn, cond_true] at h
    simp only [Bool.and_eq_true, decide_eq_true_eq] at hn
    cases hi : idxTx tx ws 0 with
    | none =>
      rw [hi] at h
      conv => lhs; whnf
      refine (ifL45_none (g := tx) hi hb _).trans ?_
      conv => lhs; whnf
      exact h
    | some j =>
      rw [hi] at h
      dsimp only at h
      have hj := (idxTx_bnd tx ws 0 j hi).2
      have e3 : (decide (0 ≤ (j : Int)) && decide ((j : Int) ≤ List.length ws)) = true := by simp; omega
      conv => lhs; whnf
      refine (ifL45_some (g := tx) hi hb _).trans ?_
      conv => lhs; whnf
      conv => lhs; arg 3; whnf
      split
      rotate_left
      · rename_i hx
        exact tf e3 hx
      conv => lhs; whnf
      refine (boL_start xs ws j (by omega) hn.1 hn.2 _).trans ?_
      generalize blks xs ws j = O at *
      cases hO : decide (O.length ≤ 1) with
      | false => rewrite [hO] at h; cases h
      | true =>
      rewrite [hO, cond_true] at h
      simp only [decide_eq_true_eq] at hO
      cases O with
      | nil =>
        conv => lhs; whnf
        refine (c47_nil _).trans ?_
        conv => lhs; whnf
        exact h
      | cons o os =>
        obtain rfl : os = [] := by cases os with | nil => rfl | cons => simp at hO
        conv => lhs; whnf
        refine (c47_eq [o] (by simp) _).trans ?_
        conv => lhs; whnf
        trace_state
        exact h
end Go.Ev.Tab

set_option maxRecDepth 100000
set_option linter.unusedVariables false
namespace Go.Ev.Tab
open Go Go.Ev.X Go.Proofs

/-! ### a table's validity -/
noncomputable def c42 := body (rc [(44, i43)] [] fx42) (codeOf fx42)
theorem c42_ok : COK Try.prog 42 c42 := fn_ok (x := fx42) (H := [(44, i43)]) (L := []) rfl rfl ⟨i43_ok, trivial⟩ (by kernel_rfl) trivial

theorem c42_eq (xs : List GG) (g : GG) (h : xs.length ≤ big) (k : AK) : c42 [.one (.sl G xs none none), .one (.fn 43 [] [0])] [(0, .box false (gLeaves g))] k = k (.one (.bool (idxTx g.1 xs 0).isSome)) [(0, .box false (gLeaves g))] := by
  cases hi : idxTx g.1 xs 0 with
  | none =>
    conv => lhs; whnf
    refine (ifL43_none (g := g) hi h _).trans ?_
    conv => lhs; whnf
    exact kbool (by decide)
  | some j =>
    conv => lhs; whnf
    refine (ifL43_some (g := g) hi h _).trans ?_
    conv => lhs; whnf
    exact kbool (by simp)
noncomputable def p42 := hide c42
theorem p42_ok : COK Try.prog 42 p42 := by unfold p42; rw [hide_eq]; exact c42_ok
theorem p42_eq (xs : List GG) (g : GG) (h : xs.length ≤ big) (k : AK) : p42 [.one (.sl G xs none none), .one (.fn 43 [] [0])] [(0, .box false (gLeaves g))] k = k (.one (.bool (idxTx g.1 xs 0).isSome)) [(0, .box false (gLeaves g))] := by
  unfold p42; rw [hide_eq]; exact c42_eq xs g h k
def hOk (xs : List GG) : Nat → Bool
  | 0 => valid (xs.getD 0 g0)
  | i + 1 => valid (xs.getD (i + 1) g0) && !(decide (order (xs.getD i g0) (xs.getD (i + 1) g0) ≥ 0) || conflict (xs.getD i g0) (xs.getD (i + 1) g0))
def hAll (xs : List GG) : Nat → Nat → Bool
  | 0, _ => true
  | f + 1, i => hOk xs i && hAll xs f (i + 1)
def wOk (xs ws : List GG) (i : Nat) : Bool :=
  valid (ws.getD i g0) && !(decide (modeI xs (ws.getD i g0).1 (ws.getD i g0).2.1 ≥ (ws.getD i g0).2.2) || (idxTx (ws.getD i g0).1 (ws.take i) 0).isSome)
def wAll (xs ws : List GG) : Nat → Nat → Bool
  | 0, _ => true
  | f + 1, i => wOk xs ws i && wAll xs ws f (i + 1)

structure VS where
  xs : List GG
  ws : List GG
  i : Nat
abbrev vM (x : VS) : Mem := [(100000000, .box false [.sl G x.xs none none, .sl G x.ws none none])]
abbrev vaV (x : VS) : List AV := [.one (.ptr 100000000 0 none), .one (.sl G x.xs none none), .one (.int .i64 x.xs.length), .one (.int .i64 x.i)]
abbrev vbV (x : VS) : List AV := [.one (.ptr 100000000 0 none), .one (.sl G x.ws none none), .one (.int .i64 x.ws.length), .one (.int .i64 x.i)]
noncomputable def vaL := loopP vaV vM (fun x => x.xs.length + x.ws.length ≤ 1024)
  (fun x K => bif hAll x.xs (x.xs.length - x.i) x.i then K.exit 0 [.one (.ptr 100000000 0 none)] (vM x) else K.ret [.one (.bool false)] [])
noncomputable def vbL := loopP vbV vM (fun x => x.xs.length + x.ws.length ≤ 1024)
  (fun x K => bif wAll x.xs x.ws (x.ws.length - x.i) x.i then K.exit 2 [] [] else K.ret [.one (.bool false)] [])
theorem vaL_inj (x y : VS) (h : vaV x = vaV y) (h' : vM x = vM y) : x = y := by
  obtain ⟨xs, ws, i⟩ := x
  obtain ⟨xs', ws', i'⟩ := y
  simp_all [vM, vaV]
  omega
theorem vbL_inj (x y : VS) (h : vbV x = vbV y) (h' : vM x = vM y) : x = y := by
  obtain ⟨xs, ws, i⟩ := x
  obtain ⟨xs', ws', i'⟩ := y
  simp_all [vM, vbV]
  omega
theorem vaL_ok : LoopOK (rc [(29, pValid), (31, pMode), (40, pOrder), (41, pConflict), (42, p42)] [(4, vaL), (10, vbL)] fx19) (loopB 4 (codeOf fx19)) vaL := by
  refine loopP_ok vaL_inj (fun x => x.xs.length - x.i) ?_
  rintro ⟨xs, ws, i⟩ K r N hb hN hf
  dsimp only at hb hN hf
  rcases Nat.lt_or_ge i xs.length with h | h
  · have hs : hAll xs (xs.length - i) i = (hOk xs i && hAll xs (xs.length - (i + 1)) (i + 1)) := by
      obtain ⟨n, hn⟩ : ∃ n, xs.length - i = n + 1 := ⟨xs.length - i - 1, by omega⟩
      rw [hn, show xs.length - (i + 1) = n by omega]; rfl
    rw [hs] at hf
    have e1 := lt_t h
    have e2 := ix_t (a := G.width) (b := 4) rfl h
    cases i with
    | zero =>
      conv => lhs; whnf
      rewrite [e1]
      conv => lhs; whnf
      rewrite [e2]
      conv => lhs; whnf
      split
      · rename_i h0
        have h0 : (!valid (xs.getD 0 g0)) = true := h0
        have ho : hOk xs 0 = false := by simpa [hOk] using h0
        rw [ho] at hf
        conv => lhs; whnf
        exact hf
      · rename_i h0
        have h0 : (!valid (xs.getD 0 g0)) = false := h0
        have ho : hOk xs 0 = true := by simpa [hOk] using h0
        rw [ho] at hf
        conv => lhs; whnf
        exact (hN ⟨xs, ws, 1⟩ hb (by simp only; omega)).trans hf
    | succ i =>
      have e3 := ix_t (a := G.width) (b := 4) rfl (show i < xs.length by omega)
      have e4 : decide (((i + 1 : Nat) : Int) > 0) = true := by simp
      conv => lhs; whnf
      rewrite [e1]
      conv => lhs; whnf
      rewrite [e2]
      conv => lhs; whnf
      split
      · rename_i h0
        have h0 : (!valid (xs.getD (i + 1) g0)) = true := h0
        have ho : hOk xs (i + 1) = false := by simp only [hOk]; simp at h0; simp [h0]
        rw [ho] at hf
        conv => lhs; whnf
        exact hf
      · rename_i h0
        have h0 : (!valid (xs.getD (i + 1) g0)) = false := h0
        conv => lhs; whnf
        split
        rotate_left
        · rename_i hx
          exact tf e4 hx
        conv => lhs; whnf
        conv => lhs; arg 3; whnf
        rewrite [pred_w (show i < 9223372036854775807 by omega)]
        split
        rotate_left
        · rename_i hx
          exact tf e3 hx
        conv => lhs; whnf
        split
        · rename_i h1
          have h1 : decide (order (xs.getD i g0) (xs.getD (i + 1) g0) ≥ 0) = true := h1
          have ho : hOk xs (i + 1) = false := by simp only [hOk, h1]; simp
          rw [ho] at hf
          conv => lhs; whnf
          exact hf
        · rename_i h1
          have h1 : decide (order (xs.getD i g0) (xs.getD (i + 1) g0) ≥ 0) = false := h1
          conv => lhs; whnf
          conv => lhs; arg 3; whnf
          rewrite [pred_w (show i < 9223372036854775807 by omega)]
          split
          rotate_left
          · rename_i hx
            exact tf e3 hx
          conv => lhs; whnf
          split
          · rename_i h2
            have h2 : conflict (xs.getD i g0) (xs.getD (i + 1) g0) = true := h2
            have ho : hOk xs (i + 1) = false := by simp only [hOk, h1, h2]; simp
            rw [ho] at hf
            conv => lhs; whnf
            exact hf
          · rename_i h2
            have h2 : conflict (xs.getD i g0) (xs.getD (i + 1) g0) = false := h2
            have ho : hOk xs (i + 1) = true := by simp only [hOk, h1, h2]; simpa using h0
            rw [ho] at hf
            conv => lhs; whnf
            rewrite [succ_w (i := i + 1) (by omega)]
            exact (hN ⟨xs, ws, i + 1 + 1⟩ hb (by simp only; omega)).trans hf
  · rw [show xs.length - i = 0 by omega, hAll] at hf
    conv => lhs; whnf
    rw [lt_f h]
    conv => lhs; whnf
    exact hf
theorem vaL_eq (xs ws : List GG) (hb : xs.length + ws.length ≤ 1024) (K : XK) : vaL (vaV ⟨xs, ws, 0⟩) (vM ⟨xs, ws, 0⟩) K =
    bif hAll xs xs.length 0 then K.exit 0 [.one (.ptr 100000000 0 none)] (vM ⟨xs, ws, 0⟩) else K.ret [.one (.bool false)] [] :=
  loopP_eq vaL_inj (x := ⟨xs, ws, 0⟩) hb K
theorem vbL_ok : LoopOK (rc [(29, pValid), (31, pMode), (40, pOrder), (41, pConflict), (42, p42)] [(4, vaL), (10, vbL)] fx19) (loopB 10 (codeOf fx19)) vbL := by
  refine loopP_ok vbL_inj (fun x => x.ws.length - x.i) ?_
  rintro ⟨xs, ws, i⟩ K r N hb hN hf
  dsimp only at hb hN hf
  rcases Nat.lt_or_ge i ws.length with h | h
  · have hs : wAll xs ws (ws.length - i) i = (wOk xs ws i && wAll xs ws (ws.length - (i + 1)) (i + 1)) := by
      obtain ⟨n, hn⟩ : ∃ n, ws.length - i = n + 1 := ⟨ws.length - i - 1, by omega⟩
      rw [hn, show ws.length - (i + 1) = n by omega]; rfl
    rw [hs] at hf
    have e1 := lt_t h
    have e2 := ix_t (a := G.width) (b := 4) rfl h
    conv => lhs; whnf
    rewrite [e1]
    conv => lhs; whnf
    rewrite [e2]
    conv => lhs; whnf
    split
    · rename_i h0
      have h0 : (!valid (ws.getD i g0)) = true := h0
      have ho : wOk xs ws i = false := by simp only [wOk]; simp at h0; simp [h0]
      rw [ho] at hf
      conv => lhs; whnf
      exact hf
    · rename_i h0
      have h0 : (!valid (ws.getD i g0)) = false := h0
      conv => lhs; whnf
      split
      · rename_i h1
        have h1 : decide (modeI xs (ws.getD i g0).1 (ws.getD i g0).2.1 ≥ (ws.getD i g0).2.2) = true := h1
        have ho : wOk xs ws i = false := by simp only [wOk, h1]; simp
        rw [ho] at hf
        conv => lhs; whnf
        exact hf
      · rename_i h1
        have h1 : decide (modeI xs (ws.getD i g0).1 (ws.getD i g0).2.1 ≥ (ws.getD i g0).2.2) = false := h1
        have e3 : (decide (0 ≤ (i : Int)) && decide ((i : Int) ≤ ws.length)) = true := by simp; omega
        conv => lhs; whnf
        conv => lhs; arg 3; whnf
        split
        rotate_left
        · rename_i hx
          exact tf e3 hx
        conv => lhs; whnf
        conv => lhs; arg 3; whnf
        conv => lhs; arg 3; tactic => exact p42_eq (ws.take i) (ws.getD i g0) (by rw [List.length_take]; unfold big; omega) _
        conv => lhs; whnf
        split
        · rename_i h2
          have h2 : (idxTx (ws.getD i g0).1 (ws.take i) 0).isSome = true := h2
          have ho : wOk xs ws i = false := by simp only [wOk, h1, h2]; simp
          rw [ho] at hf
          conv => lhs; whnf
          exact hf
        · rename_i h2
          have h2 : (idxTx (ws.getD i g0).1 (ws.take i) 0).isSome = false := h2
          have ho : wOk xs ws i = true := by simp only [wOk, h1, h2]; simpa using h0
          rw [ho] at hf
          conv => lhs; whnf
          rewrite [succ_w (i := i) (by omega)]
          exact (hN ⟨xs, ws, i + 1⟩ hb (by simp only; omega)).trans hf
  · rw [show ws.length - i = 0 by omega, wAll] at hf
    conv => lhs; whnf
    rw [lt_f h]
    conv => lhs; whnf
    exact hf
theorem vbL_eq (xs ws : List GG) (hb : xs.length + ws.length ≤ 1024) (K : XK) : vbL (vbV ⟨xs, ws, 0⟩) (vM ⟨xs, ws, 0⟩) K =
    bif wAll xs ws ws.length 0 then K.exit 2 [] [] else K.ret [.one (.bool false)] [] :=
  loopP_eq vbL_inj (x := ⟨xs, ws, 0⟩) hb K
def tabOk (xs ws : List GG) : Bool := decide (xs.length + ws.length ≤ 1024) && (hAll xs xs.length 0 && wAll xs ws ws.length 0)
def pTab := pureP [TB] fun x k => k (.one (.bool (tabOk x.1.1 x.1.2))) []
theorem tab_ok : COK Try.prog 19 pTab := by
  refine pure_cok (fn_ok (x := fx19) (H := [(29, pValid), (31, pMode), (40, pOrder), (41, pConflict), (42, p42)]) (L := [(4, vaL), (10, vbL)]) rfl rfl ⟨valid_ok, mode_ok, order_ok, lconflict_ok, p42_ok, trivial⟩ (by kernel_rfl) ⟨vaL_ok, vbL_ok, trivial⟩) ?_
  rintro ⟨⟨xs, ws⟩, u⟩ k r ⟨⟨hb0, hb1⟩, _⟩ h
  have hb0 : List.length xs ≤ big := hb0.1
  have hb1 : List.length ws ≤ big := hb1.1
  dsimp only at h
  rcases Nat.lt_or_ge 1024 (List.length xs + List.length ws) with hl | hl
  · have e1 : decide (IntKind.i64.wrap ((List.length xs : Int) + (List.length ws : Int)) > 1024) = true := by unfold big at hb0 hb1; rw [wrap_id (by omega) (by omega)]; simp; omega
    have ho : tabOk xs ws = false := by simp only [tabOk]; simp; omega
    rw [ho] at h
    conv => lhs; whnf
    split
    rotate_left
    · rename_i hx
      exact tf e1 hx
    conv => lhs; whnf
    exact h
  · have e1 : decide (IntKind.i64.wrap ((List.length xs : Int) + (List.length ws : Int)) > 1024) = false := by rw [wrap_id (by omega) (by omega)]; simp; omega
    have e0 : decide (List.length xs + List.length ws ≤ 1024) = true := by simpa using hl
    simp only [tabOk, e0, Bool.true_and] at h
    conv => lhs; whnf
    split
    · rename_i hx
      exact tf hx e1
    conv => lhs; whnf
    refine (vaL_eq xs ws hl _).trans ?_
    cases hA : hAll xs (List.length xs) 0 with
    | false =>
      rw [hA] at h
      conv => lhs; whnf
      exact h
    | true =>
      rw [hA] at h
      conv => lhs; whnf
      refine (vbL_eq xs ws hl _).trans ?_
      cases hB : wAll xs ws (List.length ws) 0 with
      | false =>
        rw [hB] at h
        conv => lhs; whnf
        exact h
      | true =>
        rw [hB] at h
        conv => lhs; whnf
        exact h
end Go.Ev.Tab

set_option maxRecDepth 1000000
set_option linter.unusedVariables false
namespace Go.Ev.Tab
open Go Go.Ev.X Go.Proofs
noncomputable def prim (f : Nat) : Option (List AV → Mem → AK → R) := bif Nat.beq f 19 then some pTab else bif Nat.beq f 20 then some pBlk else none
theorem prim_ok : ∀ f p, prim f = some p → CallOK Try.prog f p := by
  intro f p h
  unfold prim at h
  simp only [nbeq] at h
  by_cases e : f = 19
  · subst e; simp at h; subst h; exact tab_ok.ok
  · by_cases e' : f = 20
    · subst e'; simp at h; subst h; exact blk_ok.ok
    · simp [e, e'] at h
noncomputable def prim1 (f : Nat) : Option (List AV → Mem → AK → R) := bif Nat.beq f 19 then some pTab else none
theorem prim1_ok : ∀ f p, prim1 f = some p → CallOK Try.prog f p := by
  intro f p h
  unfold prim1 at h
  simp only [nbeq] at h
  by_cases e : f = 19
  · subst e; simp at h; subst h; exact tab_ok.ok
  · simp [e] at h
noncomputable def c5 := hx T sr funcs prim1 300 300 5
theorem c5_ok : COK Try.prog 5 c5 := ⟨hx_ok tab prim1_ok 300 5⟩
def pAwake := ansP [] fun _ => .one (.bool true)
theorem awake_ok : COK Try.prog 5 pAwake := ans_cok c5_ok (by rintro ⟨⟩ k hb; kernel_rfl)
noncomputable def c6 := hx T sr funcs prim 300 300 6
theorem c6_ok : COK Try.prog 6 c6 := ⟨hx_ok tab prim_ok 300 6⟩
def held : Nat → Nat → List GG
  | 0, _ => []
  | n + 1, i => ((i : Int) + 1, ((i : Int), 0), 2) :: held n (i + 1)
def waitg (m : Nat) : Nat → Nat → List GG
  | 0, _ => []
  | n + 1, i => ((i : Int) + 1, ((((i + 1) % m : Nat) : Int), 0), 1) :: waitg m n (i + 1)
noncomputable def p6 := hide c6
theorem p6_ok : COK Try.prog 6 p6 := by unfold p6; rw [hide_eq]; exact c6_ok
noncomputable abbrev rl := rcOf T sr (X.polOf funcs) (lookP [(5, pAwake), (6, p6)]) (lookL []) fx3 40 false
abbrev U8 : Ty := .int .u8
theorem law_b : COK Try.prog 3 (body rl (codeOf fx3)) := ⟨func_ok tab (lookP_ok (AllOK.mem (l := [(5, pAwake), (6, p6)]) ⟨awake_ok, p6_ok, trivial⟩)) rfl (by kernel_rfl) (loops_none (fun _ => rfl) _)⟩
end Go.Ev.Tab
