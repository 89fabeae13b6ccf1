/- Function 26, plain, and that the program computes it. Printed by gen.py. -/
import Derived.Test.YtnikdnchoahngaaTy
import Derived.Test.YtnikdnchoahngaaG24
set_option maxRecDepth 100000
set_option linter.unusedVariables false
namespace Go.Proofs.Ytnikdnchoahngaa.Am
open Go

/-! 26 galley/galleyref9.Side -/
noncomputable def X26 : Fx Int := ⟨Try.prog, cx, Try.f26, fun r => .int .i64 r, 0, fun _ => H0, cxTi, cxOrd⟩
def g26c0 : List Int := [(0 : Int), (2 : Int), (1 : Int), (2 : Int), (2 : Int), (2 : Int), (3 : Int), (2 : Int), (1 : Int), (1 : Int)]
noncomputable def g26p0 : Pt := nav [0] (bodyAt Try.f26)
noncomputable def g26p1 : Pt := nav [0, 0, 0] g26p0
noncomputable def g26 (k : Nat) (a0 : (List Nat)) : Option Int :=
  (g24 k a0).bind fun x0_2 => (nthL g26c0 x0_2).bind fun x0_3 => some x0_3
theorem g26_ok (k : Nat) (a0 : (List Nat)) (r : Int) (h : g26 k a0 = some r) : PureOk Try.prog 26 [.str a0] (.int .i64 r) := by
  refine pure_of X26 (fun _ => rfl) Try.func26 (by decide +kernel) (by kernel_rfl) (t := g26 k a0) ?_ h
  unfold g26
  refine ok_env (env' := [(0, .str a0)]) (by kernel_rfl) ?_
  refine ok_run 7 (p' := (atN 1 (ctl1 g26p1))) (env' := [(3, .slice 0 10 0 10 1), (2, .int .i64 0), (0, .str a0)]) (H' := (mkH [⟨[.int .i64 0, .int .i64 2, .int .i64 1, .int .i64 2, .int .i64 2, .int .i64 2, .int .i64 3, .int .i64 2, .int .i64 1, .int .i64 1], 0, false⟩])) (by kernel_rfl) ?_
  refine ok_frz [⟨[.int .i64 0, .int .i64 2, .int .i64 1, .int .i64 2, .int .i64 2, .int .i64 2, .int .i64 3, .int .i64 2, .int .i64 1, .int .i64 1], 0, false⟩] 3 0 10 1 0 [.int .i64 0, .int .i64 2, .int .i64 1, .int .i64 2, .int .i64 2, .int .i64 2, .int .i64 3, .int .i64 2, .int .i64 1, .int .i64 1] [0, 2] (env0 := [(0, .str a0), (2, .int .i64 0)]) (by kernel_rfl) rfl (.inl (by kernel_rfl)) rfl rfl (by decide) (by kernel_rfl) (by kernel_rfl) (by kernel_rfl) ⟨.inl rfl, trivial⟩ ?_
  refine ok_env (env' := [(3, .vec (g26c0).length 1 ((g26c0).flatMap e3)), (0, .str a0), (2, .int .i64 0)]) (by kernel_rfl) ?_
  refine ok_heap (H' := (mkH [⟨[], 0, false⟩])) (by kernel_rfl) ?_
  refine ok_run 1 (p' := (atN 2 (ctl1 g26p1))) (env' := [(4, .str a0), (3, .vec (g26c0).length 1 ((g26c0).flatMap e3)), (0, .str a0), (2, .int .i64 0)]) (H' := (mkH [⟨[], 0, false⟩])) (by kernel_rfl) ?_
  refine ok_call (fun (x0_2 : Int) => .int .i64 x0_2) (atN 3 (ctl1 g26p1)) (fun x0_2 => [(5, .int .i64 x0_2), (4, .str a0), (3, .vec (g26c0).length 1 ((g26c0).flatMap e3)), (0, .str a0), (2, .int .i64 0)]) (fi := 24) (args := [.str a0]) (by kernel_rfl) (by kernel_rfl) (fun _ => by kernel_rfl) (fun r h => g24_ok k a0 r h) (fun _ => by kernel_rfl) (fun x0_2 hx0_2 => ?_)
  refine ok_chk (fun (x0_3 : Int) => (.vptr [.int .i64 x0_3], (mkH [⟨[], 0, false⟩]))) (atN 4 (ctl1 g26p1)) (fun x0_3 => [(6, .vptr [.int .i64 x0_3]), (5, .int .i64 x0_2), (4, .str a0), (3, .vec (g26c0).length 1 ((g26c0).flatMap e3)), (0, .str a0), (2, .int .i64 0)]) (vidxH (sz := 1) e3_len (by kernel_rfl)) (fun _ => by kernel_rfl) (fun x0_3 hx0_3 => ?_)
  refine ok_run 4 (p' := .fin) (env' := [(2, .int .i64 x0_3), (7, .int .i64 x0_3), (6, .vptr [.int .i64 x0_3]), (5, .int .i64 x0_2), (4, .str a0), (3, .vec (g26c0).length 1 ((g26c0).flatMap e3)), (0, .str a0), (2, .int .i64 0)]) (H' := (mkH [⟨[], 0, false⟩])) (by kernel_rfl) ?_
  exact ok_ret (r := x0_3) (xs := [.int .i64 x0_3]) (v := .int .i64 x0_3) (by kernel_rfl) (by kernel_rfl) (by kernel_rfl) (.pures (by kernel_rfl)) (by kernel_rfl)
end Go.Proofs.Ytnikdnchoahngaa.Am
