/- The tables tell what the program says. Printed by amtab.py. -/
import Derived.Test.YtnikdnchoahngaaAmTab
set_option maxRecDepth 100000
set_option linter.unusedVariables false
namespace Go.Proofs.Ytnikdnchoahngaa.Am
open Go

theorem tyOk : tyT.allB (tiOk Try.prog) id = true := by decide +kernel
theorem fn2 : FnOk Try.prog cx 2 Try.f2 := ⟨Try.func2, by decide +kernel, by decide +kernel⟩
theorem fn3 : FnOk Try.prog cx 3 Try.f3 := ⟨Try.func3, by decide +kernel, by decide +kernel⟩
theorem fn4 : FnOk Try.prog cx 4 Try.f4 := ⟨Try.func4, by decide +kernel, by decide +kernel⟩
theorem fn5 : FnOk Try.prog cx 5 Try.f5 := ⟨Try.func5, by decide +kernel, by decide +kernel⟩
theorem fn6 : FnOk Try.prog cx 6 Try.f6 := ⟨Try.func6, by decide +kernel, by decide +kernel⟩
theorem fn7 : FnOk Try.prog cx 7 Try.f7 := ⟨Try.func7, by decide +kernel, by decide +kernel⟩
theorem fn8 : FnOk Try.prog cx 8 Try.f8 := ⟨Try.func8, by decide +kernel, by decide +kernel⟩
theorem fn9 : FnOk Try.prog cx 9 Try.f9 := ⟨Try.func9, by decide +kernel, by decide +kernel⟩
theorem fn10 : FnOk Try.prog cx 10 Try.f10 := ⟨Try.func10, by decide +kernel, by decide +kernel⟩
theorem fn11 : FnOk Try.prog cx 11 Try.f11 := ⟨Try.func11, by decide +kernel, by decide +kernel⟩
theorem fn13 : FnOk Try.prog cx 13 Try.f13 := ⟨Try.func13, by decide +kernel, by decide +kernel⟩
theorem fn14 : FnOk Try.prog cx 14 Try.f14 := ⟨Try.func14, by decide +kernel, by decide +kernel⟩
theorem fn15 : FnOk Try.prog cx 15 Try.f15 := ⟨Try.func15, by decide +kernel, by decide +kernel⟩
theorem fn16 : FnOk Try.prog cx 16 Try.f16 := ⟨Try.func16, by decide +kernel, by decide +kernel⟩
theorem fn17 : FnOk Try.prog cx 17 Try.f17 := ⟨Try.func17, by decide +kernel, by decide +kernel⟩
theorem fn18 : FnOk Try.prog cx 18 Try.f18 := ⟨Try.func18, by decide +kernel, by decide +kernel⟩
theorem fn19 : FnOk Try.prog cx 19 Try.f19 := ⟨Try.func19, by decide +kernel, by decide +kernel⟩
theorem fn20 : FnOk Try.prog cx 20 Try.f20 := ⟨Try.func20, by decide +kernel, by decide +kernel⟩
theorem fn21 : FnOk Try.prog cx 21 Try.f21 := ⟨Try.func21, by decide +kernel, by decide +kernel⟩
theorem fn22 : FnOk Try.prog cx 22 Try.f22 := ⟨Try.func22, by decide +kernel, by decide +kernel⟩
theorem fn23 : FnOk Try.prog cx 23 Try.f23 := ⟨Try.func23, by decide +kernel, by decide +kernel⟩
theorem fn24 : FnOk Try.prog cx 24 Try.f24 := ⟨Try.func24, by decide +kernel, by decide +kernel⟩
theorem fn25 : FnOk Try.prog cx 25 Try.f25 := ⟨Try.func25, by decide +kernel, by decide +kernel⟩
theorem fn26 : FnOk Try.prog cx 26 Try.f26 := ⟨Try.func26, by decide +kernel, by decide +kernel⟩
theorem fn27 : FnOk Try.prog cx 27 Try.f27 := ⟨Try.func27, by decide +kernel, by decide +kernel⟩
theorem fn28 : FnOk Try.prog cx 28 Try.f28 := ⟨Try.func28, by decide +kernel, by decide +kernel⟩
theorem fn29 : FnOk Try.prog cx 29 Try.f29 := ⟨Try.func29, by decide +kernel, by decide +kernel⟩
theorem fn30 : FnOk Try.prog cx 30 Try.f30 := ⟨Try.func30, by decide +kernel, by decide +kernel⟩
theorem fn31 : FnOk Try.prog cx 31 Try.f31 := ⟨Try.func31, by decide +kernel, by decide +kernel⟩
theorem fn32 : FnOk Try.prog cx 32 Try.f32 := ⟨Try.func32, by decide +kernel, by decide +kernel⟩
theorem fn33 : FnOk Try.prog cx 33 Try.f33 := ⟨Try.func33, by decide +kernel, by decide +kernel⟩
theorem fn34 : FnOk Try.prog cx 34 Try.f34 := ⟨Try.func34, by decide +kernel, by decide +kernel⟩
theorem fn35 : FnOk Try.prog cx 35 Try.f35 := ⟨Try.func35, by decide +kernel, by decide +kernel⟩
theorem fn36 : FnOk Try.prog cx 36 Try.f36 := ⟨Try.func36, by decide +kernel, by decide +kernel⟩
theorem fn37 : FnOk Try.prog cx 37 Try.f37 := ⟨Try.func37, by decide +kernel, by decide +kernel⟩
theorem fn38 : FnOk Try.prog cx 38 Try.f38 := ⟨Try.func38, by decide +kernel, by decide +kernel⟩
theorem fn39 : FnOk Try.prog cx 39 Try.f39 := ⟨Try.func39, by decide +kernel, by decide +kernel⟩
theorem fn40 : FnOk Try.prog cx 40 Try.f40 := ⟨Try.func40, by decide +kernel, by decide +kernel⟩
theorem fn41 : FnOk Try.prog cx 41 Try.f41 := ⟨Try.func41, by decide +kernel, by decide +kernel⟩
theorem fn42 : FnOk Try.prog cx 42 Try.f42 := ⟨Try.func42, by decide +kernel, by decide +kernel⟩
theorem fn43 : FnOk Try.prog cx 43 Try.f43 := ⟨Try.func43, by decide +kernel, by decide +kernel⟩
theorem fn44 : FnOk Try.prog cx 44 Try.f44 := ⟨Try.func44, by decide +kernel, by decide +kernel⟩
theorem fn45 : FnOk Try.prog cx 45 Try.f45 := ⟨Try.func45, by decide +kernel, by decide +kernel⟩
theorem fnOk : fnT.AllP (FnOk Try.prog cx) id := ⟨trivial, ⟨trivial, ⟨fn3, ⟨fn7, ⟨fn15, ⟨fn31, trivial, trivial⟩, trivial⟩, ⟨fn23, ⟨fn39, trivial, trivial⟩, trivial⟩⟩, ⟨fn11, ⟨fn19, ⟨fn35, trivial, trivial⟩, trivial⟩, ⟨fn27, ⟨fn43, trivial, trivial⟩, trivial⟩⟩⟩, ⟨fn5, ⟨fn9, ⟨fn17, ⟨fn33, trivial, trivial⟩, trivial⟩, ⟨fn25, ⟨fn41, trivial, trivial⟩, trivial⟩⟩, ⟨fn13, ⟨fn21, ⟨fn37, trivial, trivial⟩, trivial⟩, ⟨fn29, ⟨fn45, trivial, trivial⟩, trivial⟩⟩⟩⟩, ⟨fn2, ⟨fn4, ⟨fn8, ⟨fn16, ⟨fn32, trivial, trivial⟩, trivial⟩, ⟨fn24, ⟨fn40, trivial, trivial⟩, trivial⟩⟩, ⟨trivial, ⟨fn20, ⟨fn36, trivial, trivial⟩, trivial⟩, ⟨fn28, ⟨fn44, trivial, trivial⟩, trivial⟩⟩⟩, ⟨fn6, ⟨fn10, ⟨fn18, ⟨fn34, trivial, trivial⟩, trivial⟩, ⟨fn26, ⟨fn42, trivial, trivial⟩, trivial⟩⟩, ⟨fn14, ⟨fn22, ⟨fn38, trivial, trivial⟩, trivial⟩, ⟨fn30, trivial, trivial⟩⟩⟩⟩⟩
theorem cxOk : CxOk Try.prog cx planOk := ⟨fun t i h => tiOk_eq (PT.allB_get tyT id tyOk t i h), fun n fn h => PT.allP_get fnT id fnOk n fn h, fun _ _ _ h => (by cases h), by decide +kernel⟩
end Go.Proofs.Ytnikdnchoahngaa.Am
