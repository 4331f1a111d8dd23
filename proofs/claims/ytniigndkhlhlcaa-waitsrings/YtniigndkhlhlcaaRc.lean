/- Rings of 9, 10 transactions: the law's run at each. Printed by gencyc.py. -/
import Derived.Test.YtniigndkhlhlcaaLock
set_option linter.all false
set_option maxRecDepth 1000000
set_option maxHeartbeats 4000000
set_option linter.unusedVariables false
namespace Go.Ev.Tab
open Go Go.Ev.X Go.Proofs
theorem cyc9_0 (k : AK) : p6 [avT TB (held 9 0, waitg 9 9 0), .one (.int .i64 1)] [] k = k (.one (.sl I [1, 2, 3, 4, 5, 6, 7, 8, 9] none none)) [] := by
  unfold p6; rw [hide_eq]; kernel_rfl
theorem cyc9_1 (k : AK) : p6 [avT TB (held 9 0, waitg 9 9 0), .one (.int .i64 2)] [] k = k (.one (.sl I [2, 3, 4, 5, 6, 7, 8, 9, 1] none none)) [] := by
  unfold p6; rw [hide_eq]; kernel_rfl
theorem cyc9_2 (k : AK) : p6 [avT TB (held 9 0, waitg 9 9 0), .one (.int .i64 3)] [] k = k (.one (.sl I [3, 4, 5, 6, 7, 8, 9, 1, 2] none none)) [] := by
  unfold p6; rw [hide_eq]; kernel_rfl
theorem cyc9_3 (k : AK) : p6 [avT TB (held 9 0, waitg 9 9 0), .one (.int .i64 4)] [] k = k (.one (.sl I [4, 5, 6, 7, 8, 9, 1, 2, 3] none none)) [] := by
  unfold p6; rw [hide_eq]; kernel_rfl
theorem cyc9_4 (k : AK) : p6 [avT TB (held 9 0, waitg 9 9 0), .one (.int .i64 5)] [] k = k (.one (.sl I [5, 6, 7, 8, 9, 1, 2, 3, 4] none none)) [] := by
  unfold p6; rw [hide_eq]; kernel_rfl
theorem cyc9_5 (k : AK) : p6 [avT TB (held 9 0, waitg 9 9 0), .one (.int .i64 6)] [] k = k (.one (.sl I [6, 7, 8, 9, 1, 2, 3, 4, 5] none none)) [] := by
  unfold p6; rw [hide_eq]; kernel_rfl
theorem cyc9_6 (k : AK) : p6 [avT TB (held 9 0, waitg 9 9 0), .one (.int .i64 7)] [] k = k (.one (.sl I [7, 8, 9, 1, 2, 3, 4, 5, 6] none none)) [] := by
  unfold p6; rw [hide_eq]; kernel_rfl
theorem cyc9_7 (k : AK) : p6 [avT TB (held 9 0, waitg 9 9 0), .one (.int .i64 8)] [] k = k (.one (.sl I [8, 9, 1, 2, 3, 4, 5, 6, 7] none none)) [] := by
  unfold p6; rw [hide_eq]; kernel_rfl
theorem cyc9_8 (k : AK) : p6 [avT TB (held 9 0, waitg 9 9 0), .one (.int .i64 9)] [] k = k (.one (.sl I [9, 1, 2, 3, 4, 5, 6, 7, 8] none none)) [] := by
  unfold p6; rw [hide_eq]; kernel_rfl
theorem ring9 (n g : Int) (k : AK) (hm : IntKind.i64.wrap (2 + (IntKind.i64.wrap n).tmod 10) = 9) (hg : 0 ≤ (IntKind.i64.wrap g).tmod 9 ∧ (IntKind.i64.wrap g).tmod 9 < 9) : body rl (codeOf fx3) [.one (.int .u8 n), .one (.bool false), .one (.int .u8 g)] [] k = k (.one (.bool true)) [] := by
  conv => lhs; whnf
  generalize IntKind.i64.wrap (2 + (IntKind.i64.wrap n).tmod 10) = M at *
  subst hm
  conv => lhs; whnf
  generalize (IntKind.i64.wrap g).tmod 9 = J at *
  obtain rfl | rfl | rfl | rfl | rfl | rfl | rfl | rfl | rfl : J = 0 ∨ J = 1 ∨ J = 2 ∨ J = 3 ∨ J = 4 ∨ J = 5 ∨ J = 6 ∨ J = 7 ∨ J = 8 := by omega
  · refine (cyc9_0 _).trans ?_
    conv => lhs; whnf
    all_goals exact kbool rfl
  · refine (cyc9_1 _).trans ?_
    conv => lhs; whnf
    all_goals exact kbool rfl
  · refine (cyc9_2 _).trans ?_
    conv => lhs; whnf
    all_goals exact kbool rfl
  · refine (cyc9_3 _).trans ?_
    conv => lhs; whnf
    all_goals exact kbool rfl
  · refine (cyc9_4 _).trans ?_
    conv => lhs; whnf
    all_goals exact kbool rfl
  · refine (cyc9_5 _).trans ?_
    conv => lhs; whnf
    all_goals exact kbool rfl
  · refine (cyc9_6 _).trans ?_
    conv => lhs; whnf
    all_goals exact kbool rfl
  · refine (cyc9_7 _).trans ?_
    conv => lhs; whnf
    all_goals exact kbool rfl
  · refine (cyc9_8 _).trans ?_
    conv => lhs; whnf
    all_goals exact kbool rfl
theorem cyc9g_0 (k : AK) : p6 [avT TB (held 9 0, waitg 9 8 0), .one (.int .i64 1)] [] k = k (.one (.sl I [] (some true) (some 0))) [] := by
  unfold p6; rw [hide_eq]; kernel_rfl
theorem cyc9g_1 (k : AK) : p6 [avT TB (held 9 0, waitg 9 8 0), .one (.int .i64 2)] [] k = k (.one (.sl I [] (some true) (some 0))) [] := by
  unfold p6; rw [hide_eq]; kernel_rfl
theorem cyc9g_2 (k : AK) : p6 [avT TB (held 9 0, waitg 9 8 0), .one (.int .i64 3)] [] k = k (.one (.sl I [] (some true) (some 0))) [] := by
  unfold p6; rw [hide_eq]; kernel_rfl
theorem cyc9g_3 (k : AK) : p6 [avT TB (held 9 0, waitg 9 8 0), .one (.int .i64 4)] [] k = k (.one (.sl I [] (some true) (some 0))) [] := by
  unfold p6; rw [hide_eq]; kernel_rfl
theorem cyc9g_4 (k : AK) : p6 [avT TB (held 9 0, waitg 9 8 0), .one (.int .i64 5)] [] k = k (.one (.sl I [] (some true) (some 0))) [] := by
  unfold p6; rw [hide_eq]; kernel_rfl
theorem cyc9g_5 (k : AK) : p6 [avT TB (held 9 0, waitg 9 8 0), .one (.int .i64 6)] [] k = k (.one (.sl I [] (some true) (some 0))) [] := by
  unfold p6; rw [hide_eq]; kernel_rfl
theorem cyc9g_6 (k : AK) : p6 [avT TB (held 9 0, waitg 9 8 0), .one (.int .i64 7)] [] k = k (.one (.sl I [] (some true) (some 0))) [] := by
  unfold p6; rw [hide_eq]; kernel_rfl
theorem cyc9g_7 (k : AK) : p6 [avT TB (held 9 0, waitg 9 8 0), .one (.int .i64 8)] [] k = k (.one (.sl I [] (some true) (some 0))) [] := by
  unfold p6; rw [hide_eq]; kernel_rfl
theorem cyc9g_8 (k : AK) : p6 [avT TB (held 9 0, waitg 9 8 0), .one (.int .i64 9)] [] k = k (.one (.sl I [] (some true) (some 0))) [] := by
  unfold p6; rw [hide_eq]; kernel_rfl
theorem ring9g (n g : Int) (k : AK) (hm : IntKind.i64.wrap (2 + (IntKind.i64.wrap n).tmod 10) = 9) (hg : 0 ≤ (IntKind.i64.wrap g).tmod 9 ∧ (IntKind.i64.wrap g).tmod 9 < 9) : body rl (codeOf fx3) [.one (.int .u8 n), .one (.bool true), .one (.int .u8 g)] [] k = k (.one (.bool true)) [] := by
  conv => lhs; whnf
  generalize IntKind.i64.wrap (2 + (IntKind.i64.wrap n).tmod 10) = M at *
  subst hm
  conv => lhs; whnf
  generalize (IntKind.i64.wrap g).tmod 9 = J at *
  obtain rfl | rfl | rfl | rfl | rfl | rfl | rfl | rfl | rfl : J = 0 ∨ J = 1 ∨ J = 2 ∨ J = 3 ∨ J = 4 ∨ J = 5 ∨ J = 6 ∨ J = 7 ∨ J = 8 := by omega
  · refine (cyc9g_0 _).trans ?_
    conv => lhs; whnf
    all_goals exact kbool rfl
  · refine (cyc9g_1 _).trans ?_
    conv => lhs; whnf
    all_goals exact kbool rfl
  · refine (cyc9g_2 _).trans ?_
    conv => lhs; whnf
    all_goals exact kbool rfl
  · refine (cyc9g_3 _).trans ?_
    conv => lhs; whnf
    all_goals exact kbool rfl
  · refine (cyc9g_4 _).trans ?_
    conv => lhs; whnf
    all_goals exact kbool rfl
  · refine (cyc9g_5 _).trans ?_
    conv => lhs; whnf
    all_goals exact kbool rfl
  · refine (cyc9g_6 _).trans ?_
    conv => lhs; whnf
    all_goals exact kbool rfl
  · refine (cyc9g_7 _).trans ?_
    conv => lhs; whnf
    all_goals exact kbool rfl
  · refine (cyc9g_8 _).trans ?_
    conv => lhs; whnf
    all_goals exact kbool rfl
theorem cyc10_0 (k : AK) : p6 [avT TB (held 10 0, waitg 10 10 0), .one (.int .i64 1)] [] k = k (.one (.sl I [1, 2, 3, 4, 5, 6, 7, 8, 9, 10] none none)) [] := by
  unfold p6; rw [hide_eq]; kernel_rfl
theorem cyc10_1 (k : AK) : p6 [avT TB (held 10 0, waitg 10 10 0), .one (.int .i64 2)] [] k = k (.one (.sl I [2, 3, 4, 5, 6, 7, 8, 9, 10, 1] none none)) [] := by
  unfold p6; rw [hide_eq]; kernel_rfl
theorem cyc10_2 (k : AK) : p6 [avT TB (held 10 0, waitg 10 10 0), .one (.int .i64 3)] [] k = k (.one (.sl I [3, 4, 5, 6, 7, 8, 9, 10, 1, 2] none none)) [] := by
  unfold p6; rw [hide_eq]; kernel_rfl
theorem cyc10_3 (k : AK) : p6 [avT TB (held 10 0, waitg 10 10 0), .one (.int .i64 4)] [] k = k (.one (.sl I [4, 5, 6, 7, 8, 9, 10, 1, 2, 3] none none)) [] := by
  unfold p6; rw [hide_eq]; kernel_rfl
theorem cyc10_4 (k : AK) : p6 [avT TB (held 10 0, waitg 10 10 0), .one (.int .i64 5)] [] k = k (.one (.sl I [5, 6, 7, 8, 9, 10, 1, 2, 3, 4] none none)) [] := by
  unfold p6; rw [hide_eq]; kernel_rfl
theorem cyc10_5 (k : AK) : p6 [avT TB (held 10 0, waitg 10 10 0), .one (.int .i64 6)] [] k = k (.one (.sl I [6, 7, 8, 9, 10, 1, 2, 3, 4, 5] none none)) [] := by
  unfold p6; rw [hide_eq]; kernel_rfl
theorem cyc10_6 (k : AK) : p6 [avT TB (held 10 0, waitg 10 10 0), .one (.int .i64 7)] [] k = k (.one (.sl I [7, 8, 9, 10, 1, 2, 3, 4, 5, 6] none none)) [] := by
  unfold p6; rw [hide_eq]; kernel_rfl
theorem cyc10_7 (k : AK) : p6 [avT TB (held 10 0, waitg 10 10 0), .one (.int .i64 8)] [] k = k (.one (.sl I [8, 9, 10, 1, 2, 3, 4, 5, 6, 7] none none)) [] := by
  unfold p6; rw [hide_eq]; kernel_rfl
theorem cyc10_8 (k : AK) : p6 [avT TB (held 10 0, waitg 10 10 0), .one (.int .i64 9)] [] k = k (.one (.sl I [9, 10, 1, 2, 3, 4, 5, 6, 7, 8] none none)) [] := by
  unfold p6; rw [hide_eq]; kernel_rfl
theorem cyc10_9 (k : AK) : p6 [avT TB (held 10 0, waitg 10 10 0), .one (.int .i64 10)] [] k = k (.one (.sl I [10, 1, 2, 3, 4, 5, 6, 7, 8, 9] none none)) [] := by
  unfold p6; rw [hide_eq]; kernel_rfl
theorem ring10 (n g : Int) (k : AK) (hm : IntKind.i64.wrap (2 + (IntKind.i64.wrap n).tmod 10) = 10) (hg : 0 ≤ (IntKind.i64.wrap g).tmod 10 ∧ (IntKind.i64.wrap g).tmod 10 < 10) : body rl (codeOf fx3) [.one (.int .u8 n), .one (.bool false), .one (.int .u8 g)] [] k = k (.one (.bool true)) [] := by
  conv => lhs; whnf
  generalize IntKind.i64.wrap (2 + (IntKind.i64.wrap n).tmod 10) = M at *
  subst hm
  conv => lhs; whnf
  generalize (IntKind.i64.wrap g).tmod 10 = J at *
  obtain rfl | rfl | rfl | rfl | rfl | rfl | rfl | rfl | rfl | rfl : J = 0 ∨ J = 1 ∨ J = 2 ∨ J = 3 ∨ J = 4 ∨ J = 5 ∨ J = 6 ∨ J = 7 ∨ J = 8 ∨ J = 9 := by omega
  · refine (cyc10_0 _).trans ?_
    conv => lhs; whnf
    all_goals exact kbool rfl
  · refine (cyc10_1 _).trans ?_
    conv => lhs; whnf
    all_goals exact kbool rfl
  · refine (cyc10_2 _).trans ?_
    conv => lhs; whnf
    all_goals exact kbool rfl
  · refine (cyc10_3 _).trans ?_
    conv => lhs; whnf
    all_goals exact kbool rfl
  · refine (cyc10_4 _).trans ?_
    conv => lhs; whnf
    all_goals exact kbool rfl
  · refine (cyc10_5 _).trans ?_
    conv => lhs; whnf
    all_goals exact kbool rfl
  · refine (cyc10_6 _).trans ?_
    conv => lhs; whnf
    all_goals exact kbool rfl
  · refine (cyc10_7 _).trans ?_
    conv => lhs; whnf
    all_goals exact kbool rfl
  · refine (cyc10_8 _).trans ?_
    conv => lhs; whnf
    all_goals exact kbool rfl
  · refine (cyc10_9 _).trans ?_
    conv => lhs; whnf
    all_goals exact kbool rfl
theorem cyc10g_0 (k : AK) : p6 [avT TB (held 10 0, waitg 10 9 0), .one (.int .i64 1)] [] k = k (.one (.sl I [] (some true) (some 0))) [] := by
  unfold p6; rw [hide_eq]; kernel_rfl
theorem cyc10g_1 (k : AK) : p6 [avT TB (held 10 0, waitg 10 9 0), .one (.int .i64 2)] [] k = k (.one (.sl I [] (some true) (some 0))) [] := by
  unfold p6; rw [hide_eq]; kernel_rfl
theorem cyc10g_2 (k : AK) : p6 [avT TB (held 10 0, waitg 10 9 0), .one (.int .i64 3)] [] k = k (.one (.sl I [] (some true) (some 0))) [] := by
  unfold p6; rw [hide_eq]; kernel_rfl
theorem cyc10g_3 (k : AK) : p6 [avT TB (held 10 0, waitg 10 9 0), .one (.int .i64 4)] [] k = k (.one (.sl I [] (some true) (some 0))) [] := by
  unfold p6; rw [hide_eq]; kernel_rfl
theorem cyc10g_4 (k : AK) : p6 [avT TB (held 10 0, waitg 10 9 0), .one (.int .i64 5)] [] k = k (.one (.sl I [] (some true) (some 0))) [] := by
  unfold p6; rw [hide_eq]; kernel_rfl
theorem cyc10g_5 (k : AK) : p6 [avT TB (held 10 0, waitg 10 9 0), .one (.int .i64 6)] [] k = k (.one (.sl I [] (some true) (some 0))) [] := by
  unfold p6; rw [hide_eq]; kernel_rfl
theorem cyc10g_6 (k : AK) : p6 [avT TB (held 10 0, waitg 10 9 0), .one (.int .i64 7)] [] k = k (.one (.sl I [] (some true) (some 0))) [] := by
  unfold p6; rw [hide_eq]; kernel_rfl
theorem cyc10g_7 (k : AK) : p6 [avT TB (held 10 0, waitg 10 9 0), .one (.int .i64 8)] [] k = k (.one (.sl I [] (some true) (some 0))) [] := by
  unfold p6; rw [hide_eq]; kernel_rfl
theorem cyc10g_8 (k : AK) : p6 [avT TB (held 10 0, waitg 10 9 0), .one (.int .i64 9)] [] k = k (.one (.sl I [] (some true) (some 0))) [] := by
  unfold p6; rw [hide_eq]; kernel_rfl
theorem cyc10g_9 (k : AK) : p6 [avT TB (held 10 0, waitg 10 9 0), .one (.int .i64 10)] [] k = k (.one (.sl I [] (some true) (some 0))) [] := by
  unfold p6; rw [hide_eq]; kernel_rfl
theorem ring10g (n g : Int) (k : AK) (hm : IntKind.i64.wrap (2 + (IntKind.i64.wrap n).tmod 10) = 10) (hg : 0 ≤ (IntKind.i64.wrap g).tmod 10 ∧ (IntKind.i64.wrap g).tmod 10 < 10) : body rl (codeOf fx3) [.one (.int .u8 n), .one (.bool true), .one (.int .u8 g)] [] k = k (.one (.bool true)) [] := by
  conv => lhs; whnf
  generalize IntKind.i64.wrap (2 + (IntKind.i64.wrap n).tmod 10) = M at *
  subst hm
  conv => lhs; whnf
  generalize (IntKind.i64.wrap g).tmod 10 = J at *
  obtain rfl | rfl | rfl | rfl | rfl | rfl | rfl | rfl | rfl | rfl : J = 0 ∨ J = 1 ∨ J = 2 ∨ J = 3 ∨ J = 4 ∨ J = 5 ∨ J = 6 ∨ J = 7 ∨ J = 8 ∨ J = 9 := by omega
  · refine (cyc10g_0 _).trans ?_
    conv => lhs; whnf
    all_goals exact kbool rfl
  · refine (cyc10g_1 _).trans ?_
    conv => lhs; whnf
    all_goals exact kbool rfl
  · refine (cyc10g_2 _).trans ?_
    conv => lhs; whnf
    all_goals exact kbool rfl
  · refine (cyc10g_3 _).trans ?_
    conv => lhs; whnf
    all_goals exact kbool rfl
  · refine (cyc10g_4 _).trans ?_
    conv => lhs; whnf
    all_goals exact kbool rfl
  · refine (cyc10g_5 _).trans ?_
    conv => lhs; whnf
    all_goals exact kbool rfl
  · refine (cyc10g_6 _).trans ?_
    conv => lhs; whnf
    all_goals exact kbool rfl
  · refine (cyc10g_7 _).trans ?_
    conv => lhs; whnf
    all_goals exact kbool rfl
  · refine (cyc10g_8 _).trans ?_
    conv => lhs; whnf
    all_goals exact kbool rfl
  · refine (cyc10g_9 _).trans ?_
    conv => lhs; whnf
    all_goals exact kbool rfl
end Go.Ev.Tab
