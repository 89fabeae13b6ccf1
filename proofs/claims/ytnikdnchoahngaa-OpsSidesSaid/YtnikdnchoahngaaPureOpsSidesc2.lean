/- OpsSides: some of its inputs. Printed by finlaw.py. -/
import Derived.Test.YtnikdnchoahngaaAmM2
set_option maxRecDepth 100000
set_option linter.unusedVariables false
namespace Go.Proofs.Ytnikdnchoahngaa.Am
open Go

theorem opsSides_16 : ((List.range 30).all fun j => isTrue (ev cx2 20000 (.call 8 [.resid .i64 30 16, .resid .i64 30 j] H0))) = true := by decide +kernel
theorem opsSides_17 : ((List.range 30).all fun j => isTrue (ev cx2 20000 (.call 8 [.resid .i64 30 17, .resid .i64 30 j] H0))) = true := by decide +kernel
theorem opsSides_18 : ((List.range 30).all fun j => isTrue (ev cx2 20000 (.call 8 [.resid .i64 30 18, .resid .i64 30 j] H0))) = true := by decide +kernel
theorem opsSides_19 : ((List.range 30).all fun j => isTrue (ev cx2 20000 (.call 8 [.resid .i64 30 19, .resid .i64 30 j] H0))) = true := by decide +kernel
theorem opsSides_20 : ((List.range 30).all fun j => isTrue (ev cx2 20000 (.call 8 [.resid .i64 30 20, .resid .i64 30 j] H0))) = true := by decide +kernel
theorem opsSides_21 : ((List.range 30).all fun j => isTrue (ev cx2 20000 (.call 8 [.resid .i64 30 21, .resid .i64 30 j] H0))) = true := by decide +kernel
theorem opsSides_22 : ((List.range 30).all fun j => isTrue (ev cx2 20000 (.call 8 [.resid .i64 30 22, .resid .i64 30 j] H0))) = true := by decide +kernel
theorem opsSides_23 : ((List.range 30).all fun j => isTrue (ev cx2 20000 (.call 8 [.resid .i64 30 23, .resid .i64 30 j] H0))) = true := by decide +kernel
end Go.Proofs.Ytnikdnchoahngaa.Am
