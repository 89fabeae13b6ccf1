/- OpsSides: some of its inputs. Printed by finlaw.py. -/
import Derived.Test.YtnikdnchoahngaaAmM2
set_option maxRecDepth 100000
set_option linter.unusedVariables false
namespace Go.Proofs.Ytnikdnchoahngaa.Am
open Go

theorem opsSides_0 : ((List.range 30).all fun j => isTrue (ev cx2 20000 (.call 8 [.resid .i64 30 0, .resid .i64 30 j] H0))) = true := by decide +kernel
theorem opsSides_1 : ((List.range 30).all fun j => isTrue (ev cx2 20000 (.call 8 [.resid .i64 30 1, .resid .i64 30 j] H0))) = true := by decide +kernel
theorem opsSides_2 : ((List.range 30).all fun j => isTrue (ev cx2 20000 (.call 8 [.resid .i64 30 2, .resid .i64 30 j] H0))) = true := by decide +kernel
theorem opsSides_3 : ((List.range 30).all fun j => isTrue (ev cx2 20000 (.call 8 [.resid .i64 30 3, .resid .i64 30 j] H0))) = true := by decide +kernel
theorem opsSides_4 : ((List.range 30).all fun j => isTrue (ev cx2 20000 (.call 8 [.resid .i64 30 4, .resid .i64 30 j] H0))) = true := by decide +kernel
theorem opsSides_5 : ((List.range 30).all fun j => isTrue (ev cx2 20000 (.call 8 [.resid .i64 30 5, .resid .i64 30 j] H0))) = true := by decide +kernel
theorem opsSides_6 : ((List.range 30).all fun j => isTrue (ev cx2 20000 (.call 8 [.resid .i64 30 6, .resid .i64 30 j] H0))) = true := by decide +kernel
theorem opsSides_7 : ((List.range 30).all fun j => isTrue (ev cx2 20000 (.call 8 [.resid .i64 30 7, .resid .i64 30 j] H0))) = true := by decide +kernel
end Go.Proofs.Ytnikdnchoahngaa.Am
