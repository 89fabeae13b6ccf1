/- OpsSides: some of its inputs. Printed by finlaw.py. -/
import Derived.Test.YtnikdnchoahngaaAmM2
set_option maxRecDepth 100000
set_option linter.unusedVariables false
namespace Go.Proofs.Ytnikdnchoahngaa.Am
open Go

theorem opsSides_24 : ((List.range 30).all fun j => isTrue (ev cx2 20000 (.call 8 [.resid .i64 30 24, .resid .i64 30 j] H0))) = true := by decide +kernel
theorem opsSides_25 : ((List.range 30).all fun j => isTrue (ev cx2 20000 (.call 8 [.resid .i64 30 25, .resid .i64 30 j] H0))) = true := by decide +kernel
theorem opsSides_26 : ((List.range 30).all fun j => isTrue (ev cx2 20000 (.call 8 [.resid .i64 30 26, .resid .i64 30 j] H0))) = true := by decide +kernel
theorem opsSides_27 : ((List.range 30).all fun j => isTrue (ev cx2 20000 (.call 8 [.resid .i64 30 27, .resid .i64 30 j] H0))) = true := by decide +kernel
theorem opsSides_28 : ((List.range 30).all fun j => isTrue (ev cx2 20000 (.call 8 [.resid .i64 30 28, .resid .i64 30 j] H0))) = true := by decide +kernel
theorem opsSides_29 : ((List.range 30).all fun j => isTrue (ev cx2 20000 (.call 8 [.resid .i64 30 29, .resid .i64 30 j] H0))) = true := by decide +kernel
end Go.Proofs.Ytnikdnchoahngaa.Am
