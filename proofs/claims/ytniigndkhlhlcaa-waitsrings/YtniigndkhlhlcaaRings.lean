import Derived.Test.YtniigndkhlhlcaaRa
import Derived.Test.YtniigndkhlhlcaaRb
import Derived.Test.YtniigndkhlhlcaaRc
import Derived.Test.YtniigndkhlhlcaaRd
import Derived.Test.YtniigndkhlhlcaaEvG
import Derived.Test.YtniigndkhlhlcaaRows
import Derived.ProofKit
import Derived.OpenShut
set_option linter.all false
set_option maxRecDepth 100000
set_option linter.unusedVariables false
namespace Go.Ev.Tab
open Go Go.Ev.X Go.Proofs

theorem ring_all (n g : Int) (gap : Bool) (k : AK) (hn : 0 ≤ n ∧ n ≤ 255) (hg : 0 ≤ g ∧ g ≤ 255) : body rl (codeOf fx3) [.one (.int .u8 n), .one (.bool gap), .one (.int .u8 g)] [] k = k (.one (.bool true)) [] := by
  have en : IntKind.i64.wrap n = n := wrap_id (by omega) (by omega)
  have eg : IntKind.i64.wrap g = g := wrap_id (by omega) (by omega)
  have hm : ∀ m : Int, 2 + n % 10 = m → IntKind.i64.wrap (2 + (IntKind.i64.wrap n).tmod 10) = m := fun m h => by
    rw [en, Int.tmod_eq_emod_of_nonneg hn.1, wrap_id (by omega) (by omega)]; exact h
  have hgm : ∀ m : Int, 0 < m → 0 ≤ (IntKind.i64.wrap g).tmod m ∧ (IntKind.i64.wrap g).tmod m < m := fun m h => by
    rw [eg, Int.tmod_eq_emod_of_nonneg hg.1]; exact ⟨Int.emod_nonneg _ (by omega), Int.emod_lt_of_pos _ h⟩
  have key : 2 + n % 10 = 2 ∨ 2 + n % 10 = 3 ∨ 2 + n % 10 = 4 ∨ 2 + n % 10 = 5 ∨ 2 + n % 10 = 6 ∨ 2 + n % 10 = 7 ∨ 2 + n % 10 = 8 ∨ 2 + n % 10 = 9 ∨ 2 + n % 10 = 10 ∨ 2 + n % 10 = 11 := by omega
  cases gap with
  | false =>
    rcases key with h | h | h | h | h | h | h | h | h | h
    · exact ring2 n g k (hm _ h) (hgm _ (by decide))
    · exact ring3 n g k (hm _ h) (hgm _ (by decide))
    · exact ring4 n g k (hm _ h) (hgm _ (by decide))
    · exact ring5 n g k (hm _ h) (hgm _ (by decide))
    · exact ring6 n g k (hm _ h) (hgm _ (by decide))
    · exact ring7 n g k (hm _ h) (hgm _ (by decide))
    · exact ring8 n g k (hm _ h) (hgm _ (by decide))
    · exact ring9 n g k (hm _ h) (hgm _ (by decide))
    · exact ring10 n g k (hm _ h) (hgm _ (by decide))
    · exact ring11 n g k (hm _ h) (hgm _ (by decide))
  | true =>
    rcases key with h | h | h | h | h | h | h | h | h | h
    · exact ring2g n g k (hm _ h) (hgm _ (by decide))
    · exact ring3g n g k (hm _ h) (hgm _ (by decide))
    · exact ring4g n g k (hm _ h) (hgm _ (by decide))
    · exact ring5g n g k (hm _ h) (hgm _ (by decide))
    · exact ring6g n g k (hm _ h) (hgm _ (by decide))
    · exact ring7g n g k (hm _ h) (hgm _ (by decide))
    · exact ring8g n g k (hm _ h) (hgm _ (by decide))
    · exact ring9g n g k (hm _ h) (hgm _ (by decide))
    · exact ring10g n g k (hm _ h) (hgm _ (by decide))
    · exact ring11g n g k (hm _ h) (hgm _ (by decide))

theorem rings_walk (a0 : Int) (a1 : Bool) (a2 : Int) (w0 : (Lit.int .u8 a0).wf = true) (w2 : (Lit.int .u8 a2).wf = true) (w : World) :
    Calls Try.prog 3 #[.int .u8 a0, .bool a1, .int .u8 a2] w fun e w' => e = .returned (.bool true) ∧ Kept w w' := by
  have h0 : 0 ≤ a0 ∧ a0 ≤ 255 := by simpa [Lit.wf, IntKind.min, IntKind.max, IntKind.signed, IntKind.bits] using w0
  have h2 : 0 ≤ a2 ∧ a2 ≤ 255 := by simpa [Lit.wf, IntKind.min, IntKind.max, IntKind.signed, IntKind.bits] using w2
  exact calls_kept law_b (args := [.one (.int .u8 a0), .one (.bool a1), .one (.int .u8 a2)]) ⟨_, _, rfl, rfl, _, _, rfl, rfl, _, _, rfl, rfl, rfl⟩ (fun k => ring_all a0 a2 a1 k h0 h2)
end Go.Ev.Tab

/- It is proved that for every input of 'pagemendlaw09.WaitsRings' the call returns true and leaves its arguments as they read before: transactions that wait in a ring have it as their cycle, whoever asks, and a ring with a gap is none. Conditions: none beyond the row's own. -/
namespace Go.Proofs.Ytniigndkhlhlcaa.WaitsRings
open Go.ChangeShapes Go.WideShapes Go.ChangeAt Go.RowKit
set_option linter.unusedVariables false

theorem own : ownKnob Try.prog.godebug = none := by kernel_rfl

set_option maxRecDepth 100000 in
theorem lifted (os : Os) (started : os.Started) (H : Type) (enc : TypeId × Value → H) :
    ReturnsInHanded {} Try.checked os 3 .any (Rows.waitsRingsSpec.pre6 enc Try.prog Try.f3 Rows.waitsRingsRow.domain false) (Rows.waitsRingsSpec.post enc Try.prog Try.f3 false true false false) := by
  refine returnsInHanded_of_change (C := Try.checked) own started (by kernel_rfl) Try.func3
    (ChangeSpec.witness6 (enc := enc) (C := Try.checked) false ⟨#[], #[.int .u8 0, .bool false, .int .u8 0], []⟩ 8 (by kernel_rfl) (by kernel_rfl) (by kernel_rfl) (by kernel_rfl)) ?_
  intro W base args ds gs before hval0 hW hcnd _
  have hval : ∀ (j : Nat) t v, Try.f3.params[j]? = some t → args[j]? = some v → Value.okWide Try.prog W .any base t v := hval0
  have hW' := hW
  obtain ⟨p, q, hA0, hV, rfl, hfz, hnd⟩ := hW
  have hA : DataW.TrodAll enc Try.prog W 0 (fun _ => true) true Try.f3.params.toList args.toList ds p := hA0
  rw [Try.params3] at hA hval
  obtain ⟨v0, vs0, d0, ds0, p0, q0, hargs, rfl, rfl, h0, r0⟩ := trodAll_cons hA
  obtain ⟨v1, vs1, d1, ds1, p1, q1, rfl, rfl, rfl, h1, r1⟩ := trodAll_cons r0
  obtain ⟨v2, vs2, d2, ds2, p2, q2, rfl, rfl, rfl, h2, r2⟩ := trodAll_cons r1
  obtain ⟨rfl, rfl, rfl⟩ := trodAll_nil r2
  obtain rfl : args = #[v0, v1, v2] := by cases args; simp_all
  obtain ⟨rfl, rfl⟩ := trodVars_none hV
  obtain ⟨a0, rfl, rfl, rfl, w0⟩ := open_int Try.underlying5 (hval 0 5 v0 rfl rfl) h0
  obtain ⟨a1, rfl, rfl, rfl⟩ := open_bool Try.underlying4 (hval 1 4 v1 rfl rfl) h1
  obtain ⟨a2, rfl, rfl, rfl, w2⟩ := open_int Try.underlying5 (hval 2 5 v2 rfl rfl) h2
  clear hA0 hval0
  simp only [List.append_nil] at hW'
  refine (Go.Ev.Tab.rings_walk a0 a1 a2 w0 w2 W).mono fun e W' ⟨he, hg⟩ => ?_
  subst he
  exact ⟨_, rfl, Go.Ev.post_of_kept (pa := []) (pv := []) hW' (fun _ _ _ => (trodAll_cons_mk (shut_bool Try.underlying4 _) trodAll_mk0)) (fun sp _ => (trodAll_cons_mk (shut_int Try.underlying5 w0) (trodAll_cons_mk (shut_bool Try.underlying4 _) (trodAll_cons_mk (shut_int Try.underlying5 w2) trodAll_mk0)))) (fun _ _ => rfl) rfl
    hg (ok_one (by kernel_rfl) rfl (okWide_bool_mk Try.underlying4 _))⟩

theorem over : Rows.waitsRingsRow.holds Try.pinned (OpenSpec.ofChange Rows.waitsRingsSpec) :=
  OpenClaim.holds_of_wide 3 Try.f3 rfl rfl rfl rfl rfl rfl rfl ⟨rfl, rfl, rfl, rfl, rfl⟩ rfl rfl rfl rfl rfl (by kernel_rfl) Try.func3 (by kernel_rfl)
    (of_decide_eq_true (by kernel_rfl)) (by unfold Func.isWrapper; first | (rw [if_pos (by decide +kernel)]; kernel_rfl) | (rw [if_neg (by decide +kernel)]; exact ⟨rfl, rfl⟩))
    (fun os started H enc _ => lifted os started H enc)

end Go.Proofs.Ytniigndkhlhlcaa.WaitsRings

namespace Go.Proofs.Ytniigndkhlhlcaa
theorem waitsRings_holds : Rows.WaitsRingsSaid := WaitsRings.over
#print axioms waitsRings_holds
end Go.Proofs.Ytniigndkhlhlcaa
