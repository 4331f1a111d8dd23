/- Rings of 11 transactions: the law's run at each. Printed by gencyc.py. -/
import Derived.Test.YtniigndkhlhlcaaLock
set_option linter.all false
set_option maxRecDepth 1000000
set_option maxHeartbeats 4000000
set_option linter.unusedVariables false
namespace Go.Ev.Tab
open Go Go.Ev.X Go.Proofs
theorem cyc11_0 (k : AK) : p6 [avT TB (held 11 0, waitg 11 11 0), .one (.int .i64 1)] [] k = k (.one (.sl I [1, 2, 3, 4, 5, 6, 7, 8, 9, 10, 11] none none)) [] := by
  unfold p6; rw [hide_eq]; kernel_rfl
theorem cyc11_1 (k : AK) : p6 [avT TB (held 11 0, waitg 11 11 0), .one (.int .i64 2)] [] k = k (.one (.sl I [2, 3, 4, 5, 6, 7, 8, 9, 10, 11, 1] none none)) [] := by
  unfold p6; rw [hide_eq]; kernel_rfl
theorem cyc11_2 (k : AK) : p6 [avT TB (held 11 0, waitg 11 11 0), .one (.int .i64 3)] [] k = k (.one (.sl I [3, 4, 5, 6, 7, 8, 9, 10, 11, 1, 2] none none)) [] := by
  unfold p6; rw [hide_eq]; kernel_rfl
theorem cyc11_3 (k : AK) : p6 [avT TB (held 11 0, waitg 11 11 0), .one (.int .i64 4)] [] k = k (.one (.sl I [4, 5, 6, 7, 8, 9, 10, 11, 1, 2, 3] none none)) [] := by
  unfold p6; rw [hide_eq]; kernel_rfl
theorem cyc11_4 (k : AK) : p6 [avT TB (held 11 0, waitg 11 11 0), .one (.int .i64 5)] [] k = k (.one (.sl I [5, 6, 7, 8, 9, 10, 11, 1, 2, 3, 4] none none)) [] := by
  unfold p6; rw [hide_eq]; kernel_rfl
theorem cyc11_5 (k : AK) : p6 [avT TB (held 11 0, waitg 11 11 0), .one (.int .i64 6)] [] k = k (.one (.sl I [6, 7, 8, 9, 10, 11, 1, 2, 3, 4, 5] none none)) [] := by
  unfold p6; rw [hide_eq]; kernel_rfl
theorem cyc11_6 (k : AK) : p6 [avT TB (held 11 0, waitg 11 11 0), .one (.int .i64 7)] [] k = k (.one (.sl I [7, 8, 9, 10, 11, 1, 2, 3, 4, 5, 6] none none)) [] := by
  unfold p6; rw [hide_eq]; kernel_rfl
theorem cyc11_7 (k : AK) : p6 [avT TB (held 11 0, waitg 11 11 0), .one (.int .i64 8)] [] k = k (.one (.sl I [8, 9, 10, 11, 1, 2, 3, 4, 5, 6, 7] none none)) [] := by
  unfold p6; rw [hide_eq]; kernel_rfl
theorem cyc11_8 (k : AK) : p6 [avT TB (held 11 0, waitg 11 11 0), .one (.int .i64 9)] [] k = k (.one (.sl I [9, 10, 11, 1, 2, 3, 4, 5, 6, 7, 8] none none)) [] := by
  unfold p6; rw [hide_eq]; kernel_rfl
theorem cyc11_9 (k : AK) : p6 [avT TB (held 11 0, waitg 11 11 0), .one (.int .i64 10)] [] k = k (.one (.sl I [10, 11, 1, 2, 3, 4, 5, 6, 7, 8, 9] none none)) [] := by
  unfold p6; rw [hide_eq]; kernel_rfl
theorem cyc11_10 (k : AK) : p6 [avT TB (held 11 0, waitg 11 11 0), .one (.int .i64 11)] [] k = k (.one (.sl I [11, 1, 2, 3, 4, 5, 6, 7, 8, 9, 10] none none)) [] := by
  unfold p6; rw [hide_eq]; kernel_rfl
theorem ring11 (n g : Int) (k : AK) (hm : IntKind.i64.wrap (2 + (IntKind.i64.wrap n).tmod 10) = 11) (hg : 0 ≤ (IntKind.i64.wrap g).tmod 11 ∧ (IntKind.i64.wrap g).tmod 11 < 11) : body rl (codeOf fx3) [.one (.int .u8 n), .one (.bool false), .one (.int .u8 g)] [] k = k (.one (.bool true)) [] := by
  conv => lhs; whnf
  generalize IntKind.i64.wrap (2 + (IntKind.i64.wrap n).tmod 10) = M at *
  subst hm
  conv => lhs; whnf
  generalize (IntKind.i64.wrap g).tmod 11 = J at *
  obtain rfl | rfl | rfl | rfl | rfl | rfl | rfl | rfl | rfl | rfl | rfl : J = 0 ∨ J = 1 ∨ J = 2 ∨ J = 3 ∨ J = 4 ∨ J = 5 ∨ J = 6 ∨ J = 7 ∨ J = 8 ∨ J = 9 ∨ J = 10 := by omega
  · refine (cyc11_0 _).trans ?_
    conv => lhs; whnf
    all_goals exact kbool rfl
  · refine (cyc11_1 _).trans ?_
    conv => lhs; whnf
    all_goals exact kbool rfl
  · refine (cyc11_2 _).trans ?_
    conv => lhs; whnf
    all_goals exact kbool rfl
  · refine (cyc11_3 _).trans ?_
    conv => lhs; whnf
    all_goals exact kbool rfl
  · refine (cyc11_4 _).trans ?_
    conv => lhs; whnf
    all_goals exact kbool rfl
  · refine (cyc11_5 _).trans ?_
    conv => lhs; whnf
    all_goals exact kbool rfl
  · refine (cyc11_6 _).trans ?_
    conv => lhs; whnf
    all_goals exact kbool rfl
  · refine (cyc11_7 _).trans ?_
    conv => lhs; whnf
    all_goals exact kbool rfl
  · refine (cyc11_8 _).trans ?_
    conv => lhs; whnf
    all_goals exact kbool rfl
  · refine (cyc11_9 _).trans ?_
    conv => lhs; whnf
    all_goals exact kbool rfl
  · refine (cyc11_10 _).trans ?_
    conv => lhs; whnf
    all_goals exact kbool rfl
theorem cyc11g_0 (k : AK) : p6 [avT TB (held 11 0, waitg 11 10 0), .one (.int .i64 1)] [] k = k (.one (.sl I [] (some true) (some 0))) [] := by
  unfold p6; rw [hide_eq]; kernel_rfl
theorem cyc11g_1 (k : AK) : p6 [avT TB (held 11 0, waitg 11 10 0), .one (.int .i64 2)] [] k = k (.one (.sl I [] (some true) (some 0))) [] := by
  unfold p6; rw [hide_eq]; kernel_rfl
theorem cyc11g_2 (k : AK) : p6 [avT TB (held 11 0, waitg 11 10 0), .one (.int .i64 3)] [] k = k (.one (.sl I [] (some true) (some 0))) [] := by
  unfold p6; rw [hide_eq]; kernel_rfl
theorem cyc11g_3 (k : AK) : p6 [avT TB (held 11 0, waitg 11 10 0), .one (.int .i64 4)] [] k = k (.one (.sl I [] (some true) (some 0))) [] := by
  unfold p6; rw [hide_eq]; kernel_rfl
theorem cyc11g_4 (k : AK) : p6 [avT TB (held 11 0, waitg 11 10 0), .one (.int .i64 5)] [] k = k (.one (.sl I [] (some true) (some 0))) [] := by
  unfold p6; rw [hide_eq]; kernel_rfl
theorem cyc11g_5 (k : AK) : p6 [avT TB (held 11 0, waitg 11 10 0), .one (.int .i64 6)] [] k = k (.one (.sl I [] (some true) (some 0))) [] := by
  unfold p6; rw [hide_eq]; kernel_rfl
theorem cyc11g_6 (k : AK) : p6 [avT TB (held 11 0, waitg 11 10 0), .one (.int .i64 7)] [] k = k (.one (.sl I [] (some true) (some 0))) [] := by
  unfold p6; rw [hide_eq]; kernel_rfl
theorem cyc11g_7 (k : AK) : p6 [avT TB (held 11 0, waitg 11 10 0), .one (.int .i64 8)] [] k = k (.one (.sl I [] (some true) (some 0))) [] := by
  unfold p6; rw [hide_eq]; kernel_rfl
theorem cyc11g_8 (k : AK) : p6 [avT TB (held 11 0, waitg 11 10 0), .one (.int .i64 9)] [] k = k (.one (.sl I [] (some true) (some 0))) [] := by
  unfold p6; rw [hide_eq]; kernel_rfl
theorem cyc11g_9 (k : AK) : p6 [avT TB (held 11 0, waitg 11 10 0), .one (.int .i64 10)] [] k = k (.one (.sl I [] (some true) (some 0))) [] := by
  unfold p6; rw [hide_eq]; kernel_rfl
theorem cyc11g_10 (k : AK) : p6 [avT TB (held 11 0, waitg 11 10 0), .one (.int .i64 11)] [] k = k (.one (.sl I [] (some true) (some 0))) [] := by
  unfold p6; rw [hide_eq]; kernel_rfl
theorem ring11g (n g : Int) (k : AK) (hm : IntKind.i64.wrap (2 + (IntKind.i64.wrap n).tmod 10) = 11) (hg : 0 ≤ (IntKind.i64.wrap g).tmod 11 ∧ (IntKind.i64.wrap g).tmod 11 < 11) : body rl (codeOf fx3) [.one (.int .u8 n), .one (.bool true), .one (.int .u8 g)] [] k = k (.one (.bool true)) [] := by
  conv => lhs; whnf
  generalize IntKind.i64.wrap (2 + (IntKind.i64.wrap n).tmod 10) = M at *
  subst hm
  conv => lhs; whnf
  generalize (IntKind.i64.wrap g).tmod 11 = J at *
  obtain rfl | rfl | rfl | rfl | rfl | rfl | rfl | rfl | rfl | rfl | rfl : J = 0 ∨ J = 1 ∨ J = 2 ∨ J = 3 ∨ J = 4 ∨ J = 5 ∨ J = 6 ∨ J = 7 ∨ J = 8 ∨ J = 9 ∨ J = 10 := by omega
  · refine (cyc11g_0 _).trans ?_
    conv => lhs; whnf
    all_goals exact kbool rfl
  · refine (cyc11g_1 _).trans ?_
    conv => lhs; whnf
    all_goals exact kbool rfl
  · refine (cyc11g_2 _).trans ?_
    conv => lhs; whnf
    all_goals exact kbool rfl
  · refine (cyc11g_3 _).trans ?_
    conv => lhs; whnf
    all_goals exact kbool rfl
  · refine (cyc11g_4 _).trans ?_
    conv => lhs; whnf
    all_goals exact kbool rfl
  · refine (cyc11g_5 _).trans ?_
    conv => lhs; whnf
    all_goals exact kbool rfl
  · refine (cyc11g_6 _).trans ?_
    conv => lhs; whnf
    all_goals exact kbool rfl
  · refine (cyc11g_7 _).trans ?_
    conv => lhs; whnf
    all_goals exact kbool rfl
  · refine (cyc11g_8 _).trans ?_
    conv => lhs; whnf
    all_goals exact kbool rfl
  · refine (cyc11g_9 _).trans ?_
    conv => lhs; whnf
    all_goals exact kbool rfl
  · refine (cyc11g_10 _).trans ?_
    conv => lhs; whnf
    all_goals exact kbool rfl
end Go.Ev.Tab
