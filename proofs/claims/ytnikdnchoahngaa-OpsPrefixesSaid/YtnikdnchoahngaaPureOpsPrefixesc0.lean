/- OpsPrefixes: some of its inputs. Printed by finlaw.py. -/
import Derived.Test.YtnikdnchoahngaaAmM2
set_option maxRecDepth 100000
set_option linter.unusedVariables false
namespace Go.Proofs.Ytnikdnchoahngaa.Am
open Go

theorem opsPrefixes_0 : isTrue (ev cx2 20000 (.call 9 [.resid .i64 19 0] H0)) = true := by decide +kernel
theorem opsPrefixes_1 : isTrue (ev cx2 20000 (.call 9 [.resid .i64 19 1] H0)) = true := by decide +kernel
theorem opsPrefixes_2 : isTrue (ev cx2 20000 (.call 9 [.resid .i64 19 2] H0)) = true := by decide +kernel
theorem opsPrefixes_3 : isTrue (ev cx2 20000 (.call 9 [.resid .i64 19 3] H0)) = true := by decide +kernel
theorem opsPrefixes_4 : isTrue (ev cx2 20000 (.call 9 [.resid .i64 19 4] H0)) = true := by decide +kernel
theorem opsPrefixes_5 : isTrue (ev cx2 20000 (.call 9 [.resid .i64 19 5] H0)) = true := by decide +kernel
theorem opsPrefixes_6 : isTrue (ev cx2 20000 (.call 9 [.resid .i64 19 6] H0)) = true := by decide +kernel
theorem opsPrefixes_7 : isTrue (ev cx2 20000 (.call 9 [.resid .i64 19 7] H0)) = true := by decide +kernel
theorem opsPrefixes_8 : isTrue (ev cx2 20000 (.call 9 [.resid .i64 19 8] H0)) = true := by decide +kernel
theorem opsPrefixes_9 : isTrue (ev cx2 20000 (.call 9 [.resid .i64 19 9] H0)) = true := by decide +kernel
theorem opsPrefixes_10 : isTrue (ev cx2 20000 (.call 9 [.resid .i64 19 10] H0)) = true := by decide +kernel
theorem opsPrefixes_11 : isTrue (ev cx2 20000 (.call 9 [.resid .i64 19 11] H0)) = true := by decide +kernel
theorem opsPrefixes_12 : isTrue (ev cx2 20000 (.call 9 [.resid .i64 19 12] H0)) = true := by decide +kernel
theorem opsPrefixes_13 : isTrue (ev cx2 20000 (.call 9 [.resid .i64 19 13] H0)) = true := by decide +kernel
theorem opsPrefixes_14 : isTrue (ev cx2 20000 (.call 9 [.resid .i64 19 14] H0)) = true := by decide +kernel
theorem opsPrefixes_15 : isTrue (ev cx2 20000 (.call 9 [.resid .i64 19 15] H0)) = true := by decide +kernel
theorem opsPrefixes_16 : isTrue (ev cx2 20000 (.call 9 [.resid .i64 19 16] H0)) = true := by decide +kernel
theorem opsPrefixes_17 : isTrue (ev cx2 20000 (.call 9 [.resid .i64 19 17] H0)) = true := by decide +kernel
theorem opsPrefixes_18 : isTrue (ev cx2 20000 (.call 9 [.resid .i64 19 18] H0)) = true := by decide +kernel
end Go.Proofs.Ytnikdnchoahngaa.Am
