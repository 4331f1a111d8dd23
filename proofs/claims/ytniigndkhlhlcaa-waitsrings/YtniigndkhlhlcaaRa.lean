/- Rings of 2, 3, 4, 5, 6 transactions: the law's run at each. Printed by gencyc.py. -/
import Derived.Test.YtniigndkhlhlcaaLock
set_option linter.all false
set_option maxRecDepth 1000000
set_option maxHeartbeats 4000000
set_option linter.unusedVariables false
namespace Go.Ev.Tab
open Go Go.Ev.X Go.Proofs
theorem cyc2_0 (k : AK) : p6 [avT TB (held 2 0, waitg 2 2 0), .one (.int .i64 1)] [] k = k (.one (.sl I [1, 2] none none)) [] := by
  unfold p6; rw [hide_eq]; kernel_rfl
theorem cyc2_1 (k : AK) : p6 [avT TB (held 2 0, waitg 2 2 0), .one (.int .i64 2)] [] k = k (.one (.sl I [2, 1] none none)) [] := by
  unfold p6; rw [hide_eq]; kernel_rfl
theorem ring2 (n g : Int) (k : AK) (hm : IntKind.i64.wrap (2 + (IntKind.i64.wrap n).tmod 10) = 2) (hg : 0 ≤ (IntKind.i64.wrap g).tmod 2 ∧ (IntKind.i64.wrap g).tmod 2 < 2) : body rl (codeOf fx3) [.one (.int .u8 n), .one (.bool false), .one (.int .u8 g)] [] k = k (.one (.bool true)) [] := by
  conv => lhs; whnf
  generalize IntKind.i64.wrap (2 + (IntKind.i64.wrap n).tmod 10) = M at *
  subst hm
  conv => lhs; whnf
  generalize (IntKind.i64.wrap g).tmod 2 = J at *
  obtain rfl | rfl : J = 0 ∨ J = 1 := by omega
  · refine (cyc2_0 _).trans ?_
    conv => lhs; whnf
    all_goals exact kbool rfl
  · refine (cyc2_1 _).trans ?_
    conv => lhs; whnf
    all_goals exact kbool rfl
theorem cyc2g_0 (k : AK) : p6 [avT TB (held 2 0, waitg 2 1 0), .one (.int .i64 1)] [] k = k (.one (.sl I [] (some true) (some 0))) [] := by
  unfold p6; rw [hide_eq]; kernel_rfl
theorem cyc2g_1 (k : AK) : p6 [avT TB (held 2 0, waitg 2 1 0), .one (.int .i64 2)] [] k = k (.one (.sl I [] (some true) (some 0))) [] := by
  unfold p6; rw [hide_eq]; kernel_rfl
theorem ring2g (n g : Int) (k : AK) (hm : IntKind.i64.wrap (2 + (IntKind.i64.wrap n).tmod 10) = 2) (hg : 0 ≤ (IntKind.i64.wrap g).tmod 2 ∧ (IntKind.i64.wrap g).tmod 2 < 2) : body rl (codeOf fx3) [.one (.int .u8 n), .one (.bool true), .one (.int .u8 g)] [] k = k (.one (.bool true)) [] := by
  conv => lhs; whnf
  generalize IntKind.i64.wrap (2 + (IntKind.i64.wrap n).tmod 10) = M at *
  subst hm
  conv => lhs; whnf
  generalize (IntKind.i64.wrap g).tmod 2 = J at *
  obtain rfl | rfl : J = 0 ∨ J = 1 := by omega
  · refine (cyc2g_0 _).trans ?_
    conv => lhs; whnf
    all_goals exact kbool rfl
  · refine (cyc2g_1 _).trans ?_
    conv => lhs; whnf
    all_goals exact kbool rfl
theorem cyc3_0 (k : AK) : p6 [avT TB (held 3 0, waitg 3 3 0), .one (.int .i64 1)] [] k = k (.one (.sl I [1, 2, 3] none none)) [] := by
  unfold p6; rw [hide_eq]; kernel_rfl
theorem cyc3_1 (k : AK) : p6 [avT TB (held 3 0, waitg 3 3 0), .one (.int .i64 2)] [] k = k (.one (.sl I [2, 3, 1] none none)) [] := by
  unfold p6; rw [hide_eq]; kernel_rfl
theorem cyc3_2 (k : AK) : p6 [avT TB (held 3 0, waitg 3 3 0), .one (.int .i64 3)] [] k = k (.one (.sl I [3, 1, 2] none none)) [] := by
  unfold p6; rw [hide_eq]; kernel_rfl
theorem ring3 (n g : Int) (k : AK) (hm : IntKind.i64.wrap (2 + (IntKind.i64.wrap n).tmod 10) = 3) (hg : 0 ≤ (IntKind.i64.wrap g).tmod 3 ∧ (IntKind.i64.wrap g).tmod 3 < 3) : body rl (codeOf fx3) [.one (.int .u8 n), .one (.bool false), .one (.int .u8 g)] [] k = k (.one (.bool true)) [] := by
  conv => lhs; whnf
  generalize IntKind.i64.wrap (2 + (IntKind.i64.wrap n).tmod 10) = M at *
  subst hm
  conv => lhs; whnf
  generalize (IntKind.i64.wrap g).tmod 3 = J at *
  obtain rfl | rfl | rfl : J = 0 ∨ J = 1 ∨ J = 2 := by omega
  · refine (cyc3_0 _).trans ?_
    conv => lhs; whnf
    all_goals exact kbool rfl
  · refine (cyc3_1 _).trans ?_
    conv => lhs; whnf
    all_goals exact kbool rfl
  · refine (cyc3_2 _).trans ?_
    conv => lhs; whnf
    all_goals exact kbool rfl
theorem cyc3g_0 (k : AK) : p6 [avT TB (held 3 0, waitg 3 2 0), .one (.int .i64 1)] [] k = k (.one (.sl I [] (some true) (some 0))) [] := by
  unfold p6; rw [hide_eq]; kernel_rfl
theorem cyc3g_1 (k : AK) : p6 [avT TB (held 3 0, waitg 3 2 0), .one (.int .i64 2)] [] k = k (.one (.sl I [] (some true) (some 0))) [] := by
  unfold p6; rw [hide_eq]; kernel_rfl
theorem cyc3g_2 (k : AK) : p6 [avT TB (held 3 0, waitg 3 2 0), .one (.int .i64 3)] [] k = k (.one (.sl I [] (some true) (some 0))) [] := by
  unfold p6; rw [hide_eq]; kernel_rfl
theorem ring3g (n g : Int) (k : AK) (hm : IntKind.i64.wrap (2 + (IntKind.i64.wrap n).tmod 10) = 3) (hg : 0 ≤ (IntKind.i64.wrap g).tmod 3 ∧ (IntKind.i64.wrap g).tmod 3 < 3) : body rl (codeOf fx3) [.one (.int .u8 n), .one (.bool true), .one (.int .u8 g)] [] k = k (.one (.bool true)) [] := by
  conv => lhs; whnf
  generalize IntKind.i64.wrap (2 + (IntKind.i64.wrap n).tmod 10) = M at *
  subst hm
  conv => lhs; whnf
  generalize (IntKind.i64.wrap g).tmod 3 = J at *
  obtain rfl | rfl | rfl : J = 0 ∨ J = 1 ∨ J = 2 := by omega
  · refine (cyc3g_0 _).trans ?_
    conv => lhs; whnf
    all_goals exact kbool rfl
  · refine (cyc3g_1 _).trans ?_
    conv => lhs; whnf
    all_goals exact kbool rfl
  · refine (cyc3g_2 _).trans ?_
    conv => lhs; whnf
    all_goals exact kbool rfl
theorem cyc4_0 (k : AK) : p6 [avT TB (held 4 0, waitg 4 4 0), .one (.int .i64 1)] [] k = k (.one (.sl I [1, 2, 3, 4] none none)) [] := by
  unfold p6; rw [hide_eq]; kernel_rfl
theorem cyc4_1 (k : AK) : p6 [avT TB (held 4 0, waitg 4 4 0), .one (.int .i64 2)] [] k = k (.one (.sl I [2, 3, 4, 1] none none)) [] := by
  unfold p6; rw [hide_eq]; kernel_rfl
theorem cyc4_2 (k : AK) : p6 [avT TB (held 4 0, waitg 4 4 0), .one (.int .i64 3)] [] k = k (.one (.sl I [3, 4, 1, 2] none none)) [] := by
  unfold p6; rw [hide_eq]; kernel_rfl
theorem cyc4_3 (k : AK) : p6 [avT TB (held 4 0, waitg 4 4 0), .one (.int .i64 4)] [] k = k (.one (.sl I [4, 1, 2, 3] none none)) [] := by
  unfold p6; rw [hide_eq]; kernel_rfl
theorem ring4 (n g : Int) (k : AK) (hm : IntKind.i64.wrap (2 + (IntKind.i64.wrap n).tmod 10) = 4) (hg : 0 ≤ (IntKind.i64.wrap g).tmod 4 ∧ (IntKind.i64.wrap g).tmod 4 < 4) : body rl (codeOf fx3) [.one (.int .u8 n), .one (.bool false), .one (.int .u8 g)] [] k = k (.one (.bool true)) [] := by
  conv => lhs; whnf
  generalize IntKind.i64.wrap (2 + (IntKind.i64.wrap n).tmod 10) = M at *
  subst hm
  conv => lhs; whnf
  generalize (IntKind.i64.wrap g).tmod 4 = J at *
  obtain rfl | rfl | rfl | rfl : J = 0 ∨ J = 1 ∨ J = 2 ∨ J = 3 := by omega
  · refine (cyc4_0 _).trans ?_
    conv => lhs; whnf
    all_goals exact kbool rfl
  · refine (cyc4_1 _).trans ?_
    conv => lhs; whnf
    all_goals exact kbool rfl
  · refine (cyc4_2 _).trans ?_
    conv => lhs; whnf
    all_goals exact kbool rfl
  · refine (cyc4_3 _).trans ?_
    conv => lhs; whnf
    all_goals exact kbool rfl
theorem cyc4g_0 (k : AK) : p6 [avT TB (held 4 0, waitg 4 3 0), .one (.int .i64 1)] [] k = k (.one (.sl I [] (some true) (some 0))) [] := by
  unfold p6; rw [hide_eq]; kernel_rfl
theorem cyc4g_1 (k : AK) : p6 [avT TB (held 4 0, waitg 4 3 0), .one (.int .i64 2)] [] k = k (.one (.sl I [] (some true) (some 0))) [] := by
  unfold p6; rw [hide_eq]; kernel_rfl
theorem cyc4g_2 (k : AK) : p6 [avT TB (held 4 0, waitg 4 3 0), .one (.int .i64 3)] [] k = k (.one (.sl I [] (some true) (some 0))) [] := by
  unfold p6; rw [hide_eq]; kernel_rfl
theorem cyc4g_3 (k : AK) : p6 [avT TB (held 4 0, waitg 4 3 0), .one (.int .i64 4)] [] k = k (.one (.sl I [] (some true) (some 0))) [] := by
  unfold p6; rw [hide_eq]; kernel_rfl
theorem ring4g (n g : Int) (k : AK) (hm : IntKind.i64.wrap (2 + (IntKind.i64.wrap n).tmod 10) = 4) (hg : 0 ≤ (IntKind.i64.wrap g).tmod 4 ∧ (IntKind.i64.wrap g).tmod 4 < 4) : body rl (codeOf fx3) [.one (.int .u8 n), .one (.bool true), .one (.int .u8 g)] [] k = k (.one (.bool true)) [] := by
  conv => lhs; whnf
  generalize IntKind.i64.wrap (2 + (IntKind.i64.wrap n).tmod 10) = M at *
  subst hm
  conv => lhs; whnf
  generalize (IntKind.i64.wrap g).tmod 4 = J at *
  obtain rfl | rfl | rfl | rfl : J = 0 ∨ J = 1 ∨ J = 2 ∨ J = 3 := by omega
  · refine (cyc4g_0 _).trans ?_
    conv => lhs; whnf
    all_goals exact kbool rfl
  · refine (cyc4g_1 _).trans ?_
    conv => lhs; whnf
    all_goals exact kbool rfl
  · refine (cyc4g_2 _).trans ?_
    conv => lhs; whnf
    all_goals exact kbool rfl
  · refine (cyc4g_3 _).trans ?_
    conv => lhs; whnf
    all_goals exact kbool rfl
theorem cyc5_0 (k : AK) : p6 [avT TB (held 5 0, waitg 5 5 0), .one (.int .i64 1)] [] k = k (.one (.sl I [1, 2, 3, 4, 5] none none)) [] := by
  unfold p6; rw [hide_eq]; kernel_rfl
theorem cyc5_1 (k : AK) : p6 [avT TB (held 5 0, waitg 5 5 0), .one (.int .i64 2)] [] k = k (.one (.sl I [2, 3, 4, 5, 1] none none)) [] := by
  unfold p6; rw [hide_eq]; kernel_rfl
theorem cyc5_2 (k : AK) : p6 [avT TB (held 5 0, waitg 5 5 0), .one (.int .i64 3)] [] k = k (.one (.sl I [3, 4, 5, 1, 2] none none)) [] := by
  unfold p6; rw [hide_eq]; kernel_rfl
theorem cyc5_3 (k : AK) : p6 [avT TB (held 5 0, waitg 5 5 0), .one (.int .i64 4)] [] k = k (.one (.sl I [4, 5, 1, 2, 3] none none)) [] := by
  unfold p6; rw [hide_eq]; kernel_rfl
theorem cyc5_4 (k : AK) : p6 [avT TB (held 5 0, waitg 5 5 0), .one (.int .i64 5)] [] k = k (.one (.sl I [5, 1, 2, 3, 4] none none)) [] := by
  unfold p6; rw [hide_eq]; kernel_rfl
theorem ring5 (n g : Int) (k : AK) (hm : IntKind.i64.wrap (2 + (IntKind.i64.wrap n).tmod 10) = 5) (hg : 0 ≤ (IntKind.i64.wrap g).tmod 5 ∧ (IntKind.i64.wrap g).tmod 5 < 5) : body rl (codeOf fx3) [.one (.int .u8 n), .one (.bool false), .one (.int .u8 g)] [] k = k (.one (.bool true)) [] := by
  conv => lhs; whnf
  generalize IntKind.i64.wrap (2 + (IntKind.i64.wrap n).tmod 10) = M at *
  subst hm
  conv => lhs; whnf
  generalize (IntKind.i64.wrap g).tmod 5 = J at *
  obtain rfl | rfl | rfl | rfl | rfl : J = 0 ∨ J = 1 ∨ J = 2 ∨ J = 3 ∨ J = 4 := by omega
  · refine (cyc5_0 _).trans ?_
    conv => lhs; whnf
    all_goals exact kbool rfl
  · refine (cyc5_1 _).trans ?_
    conv => lhs; whnf
    all_goals exact kbool rfl
  · refine (cyc5_2 _).trans ?_
    conv => lhs; whnf
    all_goals exact kbool rfl
  · refine (cyc5_3 _).trans ?_
    conv => lhs; whnf
    all_goals exact kbool rfl
  · refine (cyc5_4 _).trans ?_
    conv => lhs; whnf
    all_goals exact kbool rfl
theorem cyc5g_0 (k : AK) : p6 [avT TB (held 5 0, waitg 5 4 0), .one (.int .i64 1)] [] k = k (.one (.sl I [] (some true) (some 0))) [] := by
  unfold p6; rw [hide_eq]; kernel_rfl
theorem cyc5g_1 (k : AK) : p6 [avT TB (held 5 0, waitg 5 4 0), .one (.int .i64 2)] [] k = k (.one (.sl I [] (some true) (some 0))) [] := by
  unfold p6; rw [hide_eq]; kernel_rfl
theorem cyc5g_2 (k : AK) : p6 [avT TB (held 5 0, waitg 5 4 0), .one (.int .i64 3)] [] k = k (.one (.sl I [] (some true) (some 0))) [] := by
  unfold p6; rw [hide_eq]; kernel_rfl
theorem cyc5g_3 (k : AK) : p6 [avT TB (held 5 0, waitg 5 4 0), .one (.int .i64 4)] [] k = k (.one (.sl I [] (some true) (some 0))) [] := by
  unfold p6; rw [hide_eq]; kernel_rfl
theorem cyc5g_4 (k : AK) : p6 [avT TB (held 5 0, waitg 5 4 0), .one (.int .i64 5)] [] k = k (.one (.sl I [] (some true) (some 0))) [] := by
  unfold p6; rw [hide_eq]; kernel_rfl
theorem ring5g (n g : Int) (k : AK) (hm : IntKind.i64.wrap (2 + (IntKind.i64.wrap n).tmod 10) = 5) (hg : 0 ≤ (IntKind.i64.wrap g).tmod 5 ∧ (IntKind.i64.wrap g).tmod 5 < 5) : body rl (codeOf fx3) [.one (.int .u8 n), .one (.bool true), .one (.int .u8 g)] [] k = k (.one (.bool true)) [] := by
  conv => lhs; whnf
  generalize IntKind.i64.wrap (2 + (IntKind.i64.wrap n).tmod 10) = M at *
  subst hm
  conv => lhs; whnf
  generalize (IntKind.i64.wrap g).tmod 5 = J at *
  obtain rfl | rfl | rfl | rfl | rfl : J = 0 ∨ J = 1 ∨ J = 2 ∨ J = 3 ∨ J = 4 := by omega
  · refine (cyc5g_0 _).trans ?_
    conv => lhs; whnf
    all_goals exact kbool rfl
  · refine (cyc5g_1 _).trans ?_
    conv => lhs; whnf
    all_goals exact kbool rfl
  · refine (cyc5g_2 _).trans ?_
    conv => lhs; whnf
    all_goals exact kbool rfl
  · refine (cyc5g_3 _).trans ?_
    conv => lhs; whnf
    all_goals exact kbool rfl
  · refine (cyc5g_4 _).trans ?_
    conv => lhs; whnf
    all_goals exact kbool rfl
theorem cyc6_0 (k : AK) : p6 [avT TB (held 6 0, waitg 6 6 0), .one (.int .i64 1)] [] k = k (.one (.sl I [1, 2, 3, 4, 5, 6] none none)) [] := by
  unfold p6; rw [hide_eq]; kernel_rfl
theorem cyc6_1 (k : AK) : p6 [avT TB (held 6 0, waitg 6 6 0), .one (.int .i64 2)] [] k = k (.one (.sl I [2, 3, 4, 5, 6, 1] none none)) [] := by
  unfold p6; rw [hide_eq]; kernel_rfl
theorem cyc6_2 (k : AK) : p6 [avT TB (held 6 0, waitg 6 6 0), .one (.int .i64 3)] [] k = k (.one (.sl I [3, 4, 5, 6, 1, 2] none none)) [] := by
  unfold p6; rw [hide_eq]; kernel_rfl
theorem cyc6_3 (k : AK) : p6 [avT TB (held 6 0, waitg 6 6 0), .one (.int .i64 4)] [] k = k (.one (.sl I [4, 5, 6, 1, 2, 3] none none)) [] := by
  unfold p6; rw [hide_eq]; kernel_rfl
theorem cyc6_4 (k : AK) : p6 [avT TB (held 6 0, waitg 6 6 0), .one (.int .i64 5)] [] k = k (.one (.sl I [5, 6, 1, 2, 3, 4] none none)) [] := by
  unfold p6; rw [hide_eq]; kernel_rfl
theorem cyc6_5 (k : AK) : p6 [avT TB (held 6 0, waitg 6 6 0), .one (.int .i64 6)] [] k = k (.one (.sl I [6, 1, 2, 3, 4, 5] none none)) [] := by
  unfold p6; rw [hide_eq]; kernel_rfl
theorem ring6 (n g : Int) (k : AK) (hm : IntKind.i64.wrap (2 + (IntKind.i64.wrap n).tmod 10) = 6) (hg : 0 ≤ (IntKind.i64.wrap g).tmod 6 ∧ (IntKind.i64.wrap g).tmod 6 < 6) : body rl (codeOf fx3) [.one (.int .u8 n), .one (.bool false), .one (.int .u8 g)] [] k = k (.one (.bool true)) [] := by
  conv => lhs; whnf
  generalize IntKind.i64.wrap (2 + (IntKind.i64.wrap n).tmod 10) = M at *
  subst hm
  conv => lhs; whnf
  generalize (IntKind.i64.wrap g).tmod 6 = J at *
  obtain rfl | rfl | rfl | rfl | rfl | rfl : J = 0 ∨ J = 1 ∨ J = 2 ∨ J = 3 ∨ J = 4 ∨ J = 5 := by omega
  · refine (cyc6_0 _).trans ?_
    conv => lhs; whnf
    all_goals exact kbool rfl
  · refine (cyc6_1 _).trans ?_
    conv => lhs; whnf
    all_goals exact kbool rfl
  · refine (cyc6_2 _).trans ?_
    conv => lhs; whnf
    all_goals exact kbool rfl
  · refine (cyc6_3 _).trans ?_
    conv => lhs; whnf
    all_goals exact kbool rfl
  · refine (cyc6_4 _).trans ?_
    conv => lhs; whnf
    all_goals exact kbool rfl
  · refine (cyc6_5 _).trans ?_
    conv => lhs; whnf
    all_goals exact kbool rfl
theorem cyc6g_0 (k : AK) : p6 [avT TB (held 6 0, waitg 6 5 0), .one (.int .i64 1)] [] k = k (.one (.sl I [] (some true) (some 0))) [] := by
  unfold p6; rw [hide_eq]; kernel_rfl
theorem cyc6g_1 (k : AK) : p6 [avT TB (held 6 0, waitg 6 5 0), .one (.int .i64 2)] [] k = k (.one (.sl I [] (some true) (some 0))) [] := by
  unfold p6; rw [hide_eq]; kernel_rfl
theorem cyc6g_2 (k : AK) : p6 [avT TB (held 6 0, waitg 6 5 0), .one (.int .i64 3)] [] k = k (.one (.sl I [] (some true) (some 0))) [] := by
  unfold p6; rw [hide_eq]; kernel_rfl
theorem cyc6g_3 (k : AK) : p6 [avT TB (held 6 0, waitg 6 5 0), .one (.int .i64 4)] [] k = k (.one (.sl I [] (some true) (some 0))) [] := by
  unfold p6; rw [hide_eq]; kernel_rfl
theorem cyc6g_4 (k : AK) : p6 [avT TB (held 6 0, waitg 6 5 0), .one (.int .i64 5)] [] k = k (.one (.sl I [] (some true) (some 0))) [] := by
  unfold p6; rw [hide_eq]; kernel_rfl
theorem cyc6g_5 (k : AK) : p6 [avT TB (held 6 0, waitg 6 5 0), .one (.int .i64 6)] [] k = k (.one (.sl I [] (some true) (some 0))) [] := by
  unfold p6; rw [hide_eq]; kernel_rfl
theorem ring6g (n g : Int) (k : AK) (hm : IntKind.i64.wrap (2 + (IntKind.i64.wrap n).tmod 10) = 6) (hg : 0 ≤ (IntKind.i64.wrap g).tmod 6 ∧ (IntKind.i64.wrap g).tmod 6 < 6) : body rl (codeOf fx3) [.one (.int .u8 n), .one (.bool true), .one (.int .u8 g)] [] k = k (.one (.bool true)) [] := by
  conv => lhs; whnf
  generalize IntKind.i64.wrap (2 + (IntKind.i64.wrap n).tmod 10) = M at *
  subst hm
  conv => lhs; whnf
  generalize (IntKind.i64.wrap g).tmod 6 = J at *
  obtain rfl | rfl | rfl | rfl | rfl | rfl : J = 0 ∨ J = 1 ∨ J = 2 ∨ J = 3 ∨ J = 4 ∨ J = 5 := by omega
  · refine (cyc6g_0 _).trans ?_
    conv => lhs; whnf
    all_goals exact kbool rfl
  · refine (cyc6g_1 _).trans ?_
    conv => lhs; whnf
    all_goals exact kbool rfl
  · refine (cyc6g_2 _).trans ?_
    conv => lhs; whnf
    all_goals exact kbool rfl
  · refine (cyc6g_3 _).trans ?_
    conv => lhs; whnf
    all_goals exact kbool rfl
  · refine (cyc6g_4 _).trans ?_
    conv => lhs; whnf
    all_goals exact kbool rfl
  · refine (cyc6g_5 _).trans ?_
    conv => lhs; whnf
    all_goals exact kbool rfl
end Go.Ev.Tab
