/- Rings of 7, 8 transactions: the law's run at each. Printed by gencyc.py. -/
import Derived.Test.YtniigndkhlhlcaaLock
set_option linter.all false
set_option maxRecDepth 1000000
set_option maxHeartbeats 4000000
set_option linter.unusedVariables false
namespace Go.Ev.Tab
open Go Go.Ev.X Go.Proofs
theorem cyc7_0 (k : AK) : p6 [avT TB (held 7 0, waitg 7 7 0), .one (.int .i64 1)] [] k = k (.one (.sl I [1, 2, 3, 4, 5, 6, 7] none none)) [] := by
  unfold p6; rw [hide_eq]; kernel_rfl
theorem cyc7_1 (k : AK) : p6 [avT TB (held 7 0, waitg 7 7 0), .one (.int .i64 2)] [] k = k (.one (.sl I [2, 3, 4, 5, 6, 7, 1] none none)) [] := by
  unfold p6; rw [hide_eq]; kernel_rfl
theorem cyc7_2 (k : AK) : p6 [avT TB (held 7 0, waitg 7 7 0), .one (.int .i64 3)] [] k = k (.one (.sl I [3, 4, 5, 6, 7, 1, 2] none none)) [] := by
  unfold p6; rw [hide_eq]; kernel_rfl
theorem cyc7_3 (k : AK) : p6 [avT TB (held 7 0, waitg 7 7 0), .one (.int .i64 4)] [] k = k (.one (.sl I [4, 5, 6, 7, 1, 2, 3] none none)) [] := by
  unfold p6; rw [hide_eq]; kernel_rfl
theorem cyc7_4 (k : AK) : p6 [avT TB (held 7 0, waitg 7 7 0), .one (.int .i64 5)] [] k = k (.one (.sl I [5, 6, 7, 1, 2, 3, 4] none none)) [] := by
  unfold p6; rw [hide_eq]; kernel_rfl
theorem cyc7_5 (k : AK) : p6 [avT TB (held 7 0, waitg 7 7 0), .one (.int .i64 6)] [] k = k (.one (.sl I [6, 7, 1, 2, 3, 4, 5] none none)) [] := by
  unfold p6; rw [hide_eq]; kernel_rfl
theorem cyc7_6 (k : AK) : p6 [avT TB (held 7 0, waitg 7 7 0), .one (.int .i64 7)] [] k = k (.one (.sl I [7, 1, 2, 3, 4, 5, 6] none none)) [] := by
  unfold p6; rw [hide_eq]; kernel_rfl
theorem ring7 (n g : Int) (k : AK) (hm : IntKind.i64.wrap (2 + (IntKind.i64.wrap n).tmod 10) = 7) (hg : 0 ≤ (IntKind.i64.wrap g).tmod 7 ∧ (IntKind.i64.wrap g).tmod 7 < 7) : body rl (codeOf fx3) [.one (.int .u8 n), .one (.bool false), .one (.int .u8 g)] [] k = k (.one (.bool true)) [] := by
  conv => lhs; whnf
  generalize IntKind.i64.wrap (2 + (IntKind.i64.wrap n).tmod 10) = M at *
  subst hm
  conv => lhs; whnf
  generalize (IntKind.i64.wrap g).tmod 7 = J at *
  obtain rfl | rfl | rfl | rfl | rfl | rfl | rfl : J = 0 ∨ J = 1 ∨ J = 2 ∨ J = 3 ∨ J = 4 ∨ J = 5 ∨ J = 6 := by omega
  · refine (cyc7_0 _).trans ?_
    conv => lhs; whnf
    all_goals exact kbool rfl
  · refine (cyc7_1 _).trans ?_
    conv => lhs; whnf
    all_goals exact kbool rfl
  · refine (cyc7_2 _).trans ?_
    conv => lhs; whnf
    all_goals exact kbool rfl
  · refine (cyc7_3 _).trans ?_
    conv => lhs; whnf
    all_goals exact kbool rfl
  · refine (cyc7_4 _).trans ?_
    conv => lhs; whnf
    all_goals exact kbool rfl
  · refine (cyc7_5 _).trans ?_
    conv => lhs; whnf
    all_goals exact kbool rfl
  · refine (cyc7_6 _).trans ?_
    conv => lhs; whnf
    all_goals exact kbool rfl
theorem cyc7g_0 (k : AK) : p6 [avT TB (held 7 0, waitg 7 6 0), .one (.int .i64 1)] [] k = k (.one (.sl I [] (some true) (some 0))) [] := by
  unfold p6; rw [hide_eq]; kernel_rfl
theorem cyc7g_1 (k : AK) : p6 [avT TB (held 7 0, waitg 7 6 0), .one (.int .i64 2)] [] k = k (.one (.sl I [] (some true) (some 0))) [] := by
  unfold p6; rw [hide_eq]; kernel_rfl
theorem cyc7g_2 (k : AK) : p6 [avT TB (held 7 0, waitg 7 6 0), .one (.int .i64 3)] [] k = k (.one (.sl I [] (some true) (some 0))) [] := by
  unfold p6; rw [hide_eq]; kernel_rfl
theorem cyc7g_3 (k : AK) : p6 [avT TB (held 7 0, waitg 7 6 0), .one (.int .i64 4)] [] k = k (.one (.sl I [] (some true) (some 0))) [] := by
  unfold p6; rw [hide_eq]; kernel_rfl
theorem cyc7g_4 (k : AK) : p6 [avT TB (held 7 0, waitg 7 6 0), .one (.int .i64 5)] [] k = k (.one (.sl I [] (some true) (some 0))) [] := by
  unfold p6; rw [hide_eq]; kernel_rfl
theorem cyc7g_5 (k : AK) : p6 [avT TB (held 7 0, waitg 7 6 0), .one (.int .i64 6)] [] k = k (.one (.sl I [] (some true) (some 0))) [] := by
  unfold p6; rw [hide_eq]; kernel_rfl
theorem cyc7g_6 (k : AK) : p6 [avT TB (held 7 0, waitg 7 6 0), .one (.int .i64 7)] [] k = k (.one (.sl I [] (some true) (some 0))) [] := by
  unfold p6; rw [hide_eq]; kernel_rfl
theorem ring7g (n g : Int) (k : AK) (hm : IntKind.i64.wrap (2 + (IntKind.i64.wrap n).tmod 10) = 7) (hg : 0 ≤ (IntKind.i64.wrap g).tmod 7 ∧ (IntKind.i64.wrap g).tmod 7 < 7) : body rl (codeOf fx3) [.one (.int .u8 n), .one (.bool true), .one (.int .u8 g)] [] k = k (.one (.bool true)) [] := by
  conv => lhs; whnf
  generalize IntKind.i64.wrap (2 + (IntKind.i64.wrap n).tmod 10) = M at *
  subst hm
  conv => lhs; whnf
  generalize (IntKind.i64.wrap g).tmod 7 = J at *
  obtain rfl | rfl | rfl | rfl | rfl | rfl | rfl : J = 0 ∨ J = 1 ∨ J = 2 ∨ J = 3 ∨ J = 4 ∨ J = 5 ∨ J = 6 := by omega
  · refine (cyc7g_0 _).trans ?_
    conv => lhs; whnf
    all_goals exact kbool rfl
  · refine (cyc7g_1 _).trans ?_
    conv => lhs; whnf
    all_goals exact kbool rfl
  · refine (cyc7g_2 _).trans ?_
    conv => lhs; whnf
    all_goals exact kbool rfl
  · refine (cyc7g_3 _).trans ?_
    conv => lhs; whnf
    all_goals exact kbool rfl
  · refine (cyc7g_4 _).trans ?_
    conv => lhs; whnf
    all_goals exact kbool rfl
  · refine (cyc7g_5 _).trans ?_
    conv => lhs; whnf
    all_goals exact kbool rfl
  · refine (cyc7g_6 _).trans ?_
    conv => lhs; whnf
    all_goals exact kbool rfl
theorem cyc8_0 (k : AK) : p6 [avT TB (held 8 0, waitg 8 8 0), .one (.int .i64 1)] [] k = k (.one (.sl I [1, 2, 3, 4, 5, 6, 7, 8] none none)) [] := by
  unfold p6; rw [hide_eq]; kernel_rfl
theorem cyc8_1 (k : AK) : p6 [avT TB (held 8 0, waitg 8 8 0), .one (.int .i64 2)] [] k = k (.one (.sl I [2, 3, 4, 5, 6, 7, 8, 1] none none)) [] := by
  unfold p6; rw [hide_eq]; kernel_rfl
theorem cyc8_2 (k : AK) : p6 [avT TB (held 8 0, waitg 8 8 0), .one (.int .i64 3)] [] k = k (.one (.sl I [3, 4, 5, 6, 7, 8, 1, 2] none none)) [] := by
  unfold p6; rw [hide_eq]; kernel_rfl
theorem cyc8_3 (k : AK) : p6 [avT TB (held 8 0, waitg 8 8 0), .one (.int .i64 4)] [] k = k (.one (.sl I [4, 5, 6, 7, 8, 1, 2, 3] none none)) [] := by
  unfold p6; rw [hide_eq]; kernel_rfl
theorem cyc8_4 (k : AK) : p6 [avT TB (held 8 0, waitg 8 8 0), .one (.int .i64 5)] [] k = k (.one (.sl I [5, 6, 7, 8, 1, 2, 3, 4] none none)) [] := by
  unfold p6; rw [hide_eq]; kernel_rfl
theorem cyc8_5 (k : AK) : p6 [avT TB (held 8 0, waitg 8 8 0), .one (.int .i64 6)] [] k = k (.one (.sl I [6, 7, 8, 1, 2, 3, 4, 5] none none)) [] := by
  unfold p6; rw [hide_eq]; kernel_rfl
theorem cyc8_6 (k : AK) : p6 [avT TB (held 8 0, waitg 8 8 0), .one (.int .i64 7)] [] k = k (.one (.sl I [7, 8, 1, 2, 3, 4, 5, 6] none none)) [] := by
  unfold p6; rw [hide_eq]; kernel_rfl
theorem cyc8_7 (k : AK) : p6 [avT TB (held 8 0, waitg 8 8 0), .one (.int .i64 8)] [] k = k (.one (.sl I [8, 1, 2, 3, 4, 5, 6, 7] none none)) [] := by
  unfold p6; rw [hide_eq]; kernel_rfl
theorem ring8 (n g : Int) (k : AK) (hm : IntKind.i64.wrap (2 + (IntKind.i64.wrap n).tmod 10) = 8) (hg : 0 ≤ (IntKind.i64.wrap g).tmod 8 ∧ (IntKind.i64.wrap g).tmod 8 < 8) : body rl (codeOf fx3) [.one (.int .u8 n), .one (.bool false), .one (.int .u8 g)] [] k = k (.one (.bool true)) [] := by
  conv => lhs; whnf
  generalize IntKind.i64.wrap (2 + (IntKind.i64.wrap n).tmod 10) = M at *
  subst hm
  conv => lhs; whnf
  generalize (IntKind.i64.wrap g).tmod 8 = J at *
  obtain rfl | rfl | rfl | rfl | rfl | rfl | rfl | rfl : J = 0 ∨ J = 1 ∨ J = 2 ∨ J = 3 ∨ J = 4 ∨ J = 5 ∨ J = 6 ∨ J = 7 := by omega
  · refine (cyc8_0 _).trans ?_
    conv => lhs; whnf
    all_goals exact kbool rfl
  · refine (cyc8_1 _).trans ?_
    conv => lhs; whnf
    all_goals exact kbool rfl
  · refine (cyc8_2 _).trans ?_
    conv => lhs; whnf
    all_goals exact kbool rfl
  · refine (cyc8_3 _).trans ?_
    conv => lhs; whnf
    all_goals exact kbool rfl
  · refine (cyc8_4 _).trans ?_
    conv => lhs; whnf
    all_goals exact kbool rfl
  · refine (cyc8_5 _).trans ?_
    conv => lhs; whnf
    all_goals exact kbool rfl
  · refine (cyc8_6 _).trans ?_
    conv => lhs; whnf
    all_goals exact kbool rfl
  · refine (cyc8_7 _).trans ?_
    conv => lhs; whnf
    all_goals exact kbool rfl
theorem cyc8g_0 (k : AK) : p6 [avT TB (held 8 0, waitg 8 7 0), .one (.int .i64 1)] [] k = k (.one (.sl I [] (some true) (some 0))) [] := by
  unfold p6; rw [hide_eq]; kernel_rfl
theorem cyc8g_1 (k : AK) : p6 [avT TB (held 8 0, waitg 8 7 0), .one (.int .i64 2)] [] k = k (.one (.sl I [] (some true) (some 0))) [] := by
  unfold p6; rw [hide_eq]; kernel_rfl
theorem cyc8g_2 (k : AK) : p6 [avT TB (held 8 0, waitg 8 7 0), .one (.int .i64 3)] [] k = k (.one (.sl I [] (some true) (some 0))) [] := by
  unfold p6; rw [hide_eq]; kernel_rfl
theorem cyc8g_3 (k : AK) : p6 [avT TB (held 8 0, waitg 8 7 0), .one (.int .i64 4)] [] k = k (.one (.sl I [] (some true) (some 0))) [] := by
  unfold p6; rw [hide_eq]; kernel_rfl
theorem cyc8g_4 (k : AK) : p6 [avT TB (held 8 0, waitg 8 7 0), .one (.int .i64 5)] [] k = k (.one (.sl I [] (some true) (some 0))) [] := by
  unfold p6; rw [hide_eq]; kernel_rfl
theorem cyc8g_5 (k : AK) : p6 [avT TB (held 8 0, waitg 8 7 0), .one (.int .i64 6)] [] k = k (.one (.sl I [] (some true) (some 0))) [] := by
  unfold p6; rw [hide_eq]; kernel_rfl
theorem cyc8g_6 (k : AK) : p6 [avT TB (held 8 0, waitg 8 7 0), .one (.int .i64 7)] [] k = k (.one (.sl I [] (some true) (some 0))) [] := by
  unfold p6; rw [hide_eq]; kernel_rfl
theorem cyc8g_7 (k : AK) : p6 [avT TB (held 8 0, waitg 8 7 0), .one (.int .i64 8)] [] k = k (.one (.sl I [] (some true) (some 0))) [] := by
  unfold p6; rw [hide_eq]; kernel_rfl
theorem ring8g (n g : Int) (k : AK) (hm : IntKind.i64.wrap (2 + (IntKind.i64.wrap n).tmod 10) = 8) (hg : 0 ≤ (IntKind.i64.wrap g).tmod 8 ∧ (IntKind.i64.wrap g).tmod 8 < 8) : body rl (codeOf fx3) [.one (.int .u8 n), .one (.bool true), .one (.int .u8 g)] [] k = k (.one (.bool true)) [] := by
  conv => lhs; whnf
  generalize IntKind.i64.wrap (2 + (IntKind.i64.wrap n).tmod 10) = M at *
  subst hm
  conv => lhs; whnf
  generalize (IntKind.i64.wrap g).tmod 8 = J at *
  obtain rfl | rfl | rfl | rfl | rfl | rfl | rfl | rfl : J = 0 ∨ J = 1 ∨ J = 2 ∨ J = 3 ∨ J = 4 ∨ J = 5 ∨ J = 6 ∨ J = 7 := by omega
  · refine (cyc8g_0 _).trans ?_
    conv => lhs; whnf
    all_goals exact kbool rfl
  · refine (cyc8g_1 _).trans ?_
    conv => lhs; whnf
    all_goals exact kbool rfl
  · refine (cyc8g_2 _).trans ?_
    conv => lhs; whnf
    all_goals exact kbool rfl
  · refine (cyc8g_3 _).trans ?_
    conv => lhs; whnf
    all_goals exact kbool rfl
  · refine (cyc8g_4 _).trans ?_
    conv => lhs; whnf
    all_goals exact kbool rfl
  · refine (cyc8g_5 _).trans ?_
    conv => lhs; whnf
    all_goals exact kbool rfl
  · refine (cyc8g_6 _).trans ?_
    conv => lhs; whnf
    all_goals exact kbool rfl
  · refine (cyc8g_7 _).trans ?_
    conv => lhs; whnf
    all_goals exact kbool rfl
end Go.Ev.Tab
