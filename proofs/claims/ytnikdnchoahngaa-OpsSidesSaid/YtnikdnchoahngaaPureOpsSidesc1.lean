/- OpsSides: some of its inputs. Printed by finlaw.py. -/
import Derived.Test.YtnikdnchoahngaaAmM2
set_option maxRecDepth 100000
set_option linter.unusedVariables false
namespace Go.Proofs.Ytnikdnchoahngaa.Am
open Go

theorem opsSides_8 : ((List.range 30).all fun j => isTrue (ev cx2 20000 (.call 8 [.resid .i64 30 8, .resid .i64 30 j] H0))) = true := by decide +kernel
theorem opsSides_9 : ((List.range 30).all fun j => isTrue (ev cx2 20000 (.call 8 [.resid .i64 30 9, .resid .i64 30 j] H0))) = true := by decide +kernel
theorem opsSides_10 : ((List.range 30).all fun j => isTrue (ev cx2 20000 (.call 8 [.resid .i64 30 10, .resid .i64 30 j] H0))) = true := by decide +kernel
theorem opsSides_11 : ((List.range 30).all fun j => isTrue (ev cx2 20000 (.call 8 [.resid .i64 30 11, .resid .i64 30 j] H0))) = true := by decide +kernel
theorem opsSides_12 : ((List.range 30).all fun j => isTrue (ev cx2 20000 (.call 8 [.resid .i64 30 12, .resid .i64 30 j] H0))) = true := by decide +kernel
theorem opsSides_13 : ((List.range 30).all fun j => isTrue (ev cx2 20000 (.call 8 [.resid .i64 30 13, .resid .i64 30 j] H0))) = true := by decide +kernel
theorem opsSides_14 : ((List.range 30).all fun j => isTrue (ev cx2 20000 (.call 8 [.resid .i64 30 14, .resid .i64 30 j] H0))) = true := by decide +kernel
theorem opsSides_15 : ((List.range 30).all fun j => isTrue (ev cx2 20000 (.call 8 [.resid .i64 30 15, .resid .i64 30 j] H0))) = true := by decide +kernel
end Go.Proofs.Ytnikdnchoahngaa.Am
