/- Outcomes of some calls, computed by Lean. Printed by memo.py. -/
import Derived.Test.YtnikdnchoahngaaAmM1
set_option maxRecDepth 100000
set_option maxHeartbeats 4000000
namespace Go.Proofs.Ytnikdnchoahngaa.Am
open Go

theorem cx2_25_0 : (valIs (ev cx1 50000 (.call 25 [.str [58, 58]] H0)) (.int .i64 2) && plainV (.int .i64 2) && List.all [.str [58, 58]] plainA) = true := by decide +kernel
theorem cx2_25_1 : (valIs (ev cx1 50000 (.call 25 [.str [124]] H0)) (.int .i64 1) && plainV (.int .i64 1) && List.all [.str [124]] plainA) = true := by decide +kernel
theorem cx2_25_2 : (valIs (ev cx1 50000 (.call 25 [.str [61]] H0)) (.int .i64 2) && plainV (.int .i64 2) && List.all [.str [61]] plainA) = true := by decide +kernel
theorem cx2_25_3 : (valIs (ev cx1 50000 (.call 25 [.str [33]] H0)) (.int .i64 2) && plainV (.int .i64 2) && List.all [.str [33]] plainA) = true := by decide +kernel
theorem cx2_25_4 : (valIs (ev cx1 50000 (.call 25 [.str [111, 114, 101, 108, 115, 101]] H0)) (.int .i64 2) && plainV (.int .i64 2) && List.all [.str [111, 114, 101, 108, 115, 101]] plainA) = true := by decide +kernel
theorem cx2_25_5 : (valIs (ev cx1 50000 (.call 25 [.str [97, 110, 100, 97, 108, 115, 111]] H0)) (.int .i64 2) && plainV (.int .i64 2) && List.all [.str [97, 110, 100, 97, 108, 115, 111]] plainA) = true := by decide +kernel
theorem cx2_25_6 : (valIs (ev cx1 50000 (.call 25 [.str [61, 61]] H0)) (.int .i64 3) && plainV (.int .i64 3) && List.all [.str [61, 61]] plainA) = true := by decide +kernel
theorem cx2_25_7 : (valIs (ev cx1 50000 (.call 25 [.str [47, 61]] H0)) (.int .i64 3) && plainV (.int .i64 3) && List.all [.str [47, 61]] plainA) = true := by decide +kernel
theorem cx2_25_8 : (valIs (ev cx1 50000 (.call 25 [.str [61, 60]] H0)) (.int .i64 3) && plainV (.int .i64 3) && List.all [.str [61, 60]] plainA) = true := by decide +kernel
theorem cx2_25_9 : (valIs (ev cx1 50000 (.call 25 [.str [60]] H0)) (.int .i64 3) && plainV (.int .i64 3) && List.all [.str [60]] plainA) = true := by decide +kernel
theorem cx2_25_10 : (valIs (ev cx1 50000 (.call 25 [.str [62, 61]] H0)) (.int .i64 3) && plainV (.int .i64 3) && List.all [.str [62, 61]] plainA) = true := by decide +kernel
theorem cx2_25_11 : (valIs (ev cx1 50000 (.call 25 [.str [62]] H0)) (.int .i64 3) && plainV (.int .i64 3) && List.all [.str [62]] plainA) = true := by decide +kernel
theorem cx2_25_12 : (valIs (ev cx1 50000 (.call 25 [.str [61, 58, 61]] H0)) (.int .i64 3) && plainV (.int .i64 3) && List.all [.str [61, 58, 61]] plainA) = true := by decide +kernel
theorem cx2_25_13 : (valIs (ev cx1 50000 (.call 25 [.str [61, 47, 61]] H0)) (.int .i64 3) && plainV (.int .i64 3) && List.all [.str [61, 47, 61]] plainA) = true := by decide +kernel
theorem cx2_25_14 : (valIs (ev cx1 50000 (.call 25 [.str [43, 43]] H0)) (.int .i64 2) && plainV (.int .i64 2) && List.all [.str [43, 43]] plainA) = true := by decide +kernel
theorem cx2_25_15 : (valIs (ev cx1 50000 (.call 25 [.str [45, 45]] H0)) (.int .i64 2) && plainV (.int .i64 2) && List.all [.str [45, 45]] plainA) = true := by decide +kernel
theorem cx2_25_16 : (valIs (ev cx1 50000 (.call 25 [.str [43]] H0)) (.int .i64 1) && plainV (.int .i64 1) && List.all [.str [43]] plainA) = true := by decide +kernel
theorem cx2_25_17 : (valIs (ev cx1 50000 (.call 25 [.str [45]] H0)) (.int .i64 1) && plainV (.int .i64 1) && List.all [.str [45]] plainA) = true := by decide +kernel
theorem cx2_25_18 : (valIs (ev cx1 50000 (.call 25 [.str [98, 111, 114]] H0)) (.int .i64 1) && plainV (.int .i64 1) && List.all [.str [98, 111, 114]] plainA) = true := by decide +kernel
theorem cx2_25_19 : (valIs (ev cx1 50000 (.call 25 [.str [98, 120, 111, 114]] H0)) (.int .i64 1) && plainV (.int .i64 1) && List.all [.str [98, 120, 111, 114]] plainA) = true := by decide +kernel
theorem cx2_25_20 : (valIs (ev cx1 50000 (.call 25 [.str [98, 115, 108]] H0)) (.int .i64 1) && plainV (.int .i64 1) && List.all [.str [98, 115, 108]] plainA) = true := by decide +kernel
theorem cx2_25_21 : (valIs (ev cx1 50000 (.call 25 [.str [98, 115, 114]] H0)) (.int .i64 1) && plainV (.int .i64 1) && List.all [.str [98, 115, 114]] plainA) = true := by decide +kernel
theorem cx2_25_22 : (valIs (ev cx1 50000 (.call 25 [.str [111, 114]] H0)) (.int .i64 1) && plainV (.int .i64 1) && List.all [.str [111, 114]] plainA) = true := by decide +kernel
theorem cx2_25_23 : (valIs (ev cx1 50000 (.call 25 [.str [120, 111, 114]] H0)) (.int .i64 1) && plainV (.int .i64 1) && List.all [.str [120, 111, 114]] plainA) = true := by decide +kernel
theorem cx2_25_24 : (valIs (ev cx1 50000 (.call 25 [.str [42]] H0)) (.int .i64 1) && plainV (.int .i64 1) && List.all [.str [42]] plainA) = true := by decide +kernel
theorem cx2_25_25 : (valIs (ev cx1 50000 (.call 25 [.str [47]] H0)) (.int .i64 1) && plainV (.int .i64 1) && List.all [.str [47]] plainA) = true := by decide +kernel
theorem cx2_25_26 : (valIs (ev cx1 50000 (.call 25 [.str [100, 105, 118]] H0)) (.int .i64 1) && plainV (.int .i64 1) && List.all [.str [100, 105, 118]] plainA) = true := by decide +kernel
theorem cx2_25_27 : (valIs (ev cx1 50000 (.call 25 [.str [114, 101, 109]] H0)) (.int .i64 1) && plainV (.int .i64 1) && List.all [.str [114, 101, 109]] plainA) = true := by decide +kernel
theorem cx2_25_28 : (valIs (ev cx1 50000 (.call 25 [.str [98, 97, 110, 100]] H0)) (.int .i64 1) && plainV (.int .i64 1) && List.all [.str [98, 97, 110, 100]] plainA) = true := by decide +kernel
theorem cx2_25_29 : (valIs (ev cx1 50000 (.call 25 [.str [97, 110, 100]] H0)) (.int .i64 1) && plainV (.int .i64 1) && List.all [.str [97, 110, 100]] plainA) = true := by decide +kernel
theorem cx2_25_30 : (valIs (ev cx1 50000 (.call 25 [.str [110, 111, 116]] H0)) (.int .i64 0) && plainV (.int .i64 0) && List.all [.str [110, 111, 116]] plainA) = true := by decide +kernel
theorem cx2_25_31 : (valIs (ev cx1 50000 (.call 25 [.str [98, 110, 111, 116]] H0)) (.int .i64 0) && plainV (.int .i64 0) && List.all [.str [98, 110, 111, 116]] plainA) = true := by decide +kernel
theorem cx2_25_32 : (valIs (ev cx1 50000 (.call 25 [.str [99, 97, 116, 99, 104]] H0)) (.int .i64 0) && plainV (.int .i64 0) && List.all [.str [99, 97, 116, 99, 104]] plainA) = true := by decide +kernel
theorem cx2_25_33 : (valIs (ev cx1 50000 (.call 25 [.str [35]] H0)) (.int .i64 0) && plainV (.int .i64 0) && List.all [.str [35]] plainA) = true := by decide +kernel
theorem cx2_25_34 : (valIs (ev cx1 50000 (.call 25 [.str [40]] H0)) (.int .i64 0) && plainV (.int .i64 0) && List.all [.str [40]] plainA) = true := by decide +kernel
theorem cx2_25_35 : (valIs (ev cx1 50000 (.call 25 [.str []] H0)) (.int .i64 0) && plainV (.int .i64 0) && List.all [.str []] plainA) = true := by decide +kernel
theorem cx2_25_36 : (valIs (ev cx1 50000 (.call 25 [.str [110, 111, 116, 116]] H0)) (.int .i64 0) && plainV (.int .i64 0) && List.all [.str [110, 111, 116, 116]] plainA) = true := by decide +kernel
theorem cx2_25_37 : (valIs (ev cx1 50000 (.call 25 [.str [61, 62]] H0)) (.int .i64 0) && plainV (.int .i64 0) && List.all [.str [61, 62]] plainA) = true := by decide +kernel
theorem cx2_25_38 : (valIs (ev cx1 50000 (.call 25 [.str [60, 45]] H0)) (.int .i64 0) && plainV (.int .i64 0) && List.all [.str [60, 45]] plainA) = true := by decide +kernel
theorem cx2_25_39 : (valIs (ev cx1 50000 (.call 25 [.str [124, 124]] H0)) (.int .i64 0) && plainV (.int .i64 0) && List.all [.str [124, 124]] plainA) = true := by decide +kernel
noncomputable def cx2L25 : List (List AV × AV) := [([.str [58, 58]], .int .i64 2), ([.str [124]], .int .i64 1), ([.str [61]], .int .i64 2), ([.str [33]], .int .i64 2), ([.str [111, 114, 101, 108, 115, 101]], .int .i64 2), ([.str [97, 110, 100, 97, 108, 115, 111]], .int .i64 2), ([.str [61, 61]], .int .i64 3), ([.str [47, 61]], .int .i64 3), ([.str [61, 60]], .int .i64 3), ([.str [60]], .int .i64 3), ([.str [62, 61]], .int .i64 3), ([.str [62]], .int .i64 3), ([.str [61, 58, 61]], .int .i64 3), ([.str [61, 47, 61]], .int .i64 3), ([.str [43, 43]], .int .i64 2), ([.str [45, 45]], .int .i64 2), ([.str [43]], .int .i64 1), ([.str [45]], .int .i64 1), ([.str [98, 111, 114]], .int .i64 1), ([.str [98, 120, 111, 114]], .int .i64 1), ([.str [98, 115, 108]], .int .i64 1), ([.str [98, 115, 114]], .int .i64 1), ([.str [111, 114]], .int .i64 1), ([.str [120, 111, 114]], .int .i64 1), ([.str [42]], .int .i64 1), ([.str [47]], .int .i64 1), ([.str [100, 105, 118]], .int .i64 1), ([.str [114, 101, 109]], .int .i64 1), ([.str [98, 97, 110, 100]], .int .i64 1), ([.str [97, 110, 100]], .int .i64 1), ([.str [110, 111, 116]], .int .i64 0), ([.str [98, 110, 111, 116]], .int .i64 0), ([.str [99, 97, 116, 99, 104]], .int .i64 0), ([.str [35]], .int .i64 0), ([.str [40]], .int .i64 0), ([.str []], .int .i64 0), ([.str [110, 111, 116, 116]], .int .i64 0), ([.str [61, 62]], .int .i64 0), ([.str [60, 45]], .int .i64 0), ([.str [124, 124]], .int .i64 0)]
theorem cx2K25 : KnownOk cx1 50000 25 cx2L25 := by
  intro p hp
  simp only [cx2L25, List.mem_cons, List.not_mem_nil, or_false] at hp
  rcases hp with rfl | rfl | rfl | rfl | rfl | rfl | rfl | rfl | rfl | rfl | rfl | rfl | rfl | rfl | rfl | rfl | rfl | rfl | rfl | rfl | rfl | rfl | rfl | rfl | rfl | rfl | rfl | rfl | rfl | rfl | rfl | rfl | rfl | rfl | rfl | rfl | rfl | rfl | rfl | rfl
  · exact cx2_25_0
  · exact cx2_25_1
  · exact cx2_25_2
  · exact cx2_25_3
  · exact cx2_25_4
  · exact cx2_25_5
  · exact cx2_25_6
  · exact cx2_25_7
  · exact cx2_25_8
  · exact cx2_25_9
  · exact cx2_25_10
  · exact cx2_25_11
  · exact cx2_25_12
  · exact cx2_25_13
  · exact cx2_25_14
  · exact cx2_25_15
  · exact cx2_25_16
  · exact cx2_25_17
  · exact cx2_25_18
  · exact cx2_25_19
  · exact cx2_25_20
  · exact cx2_25_21
  · exact cx2_25_22
  · exact cx2_25_23
  · exact cx2_25_24
  · exact cx2_25_25
  · exact cx2_25_26
  · exact cx2_25_27
  · exact cx2_25_28
  · exact cx2_25_29
  · exact cx2_25_30
  · exact cx2_25_31
  · exact cx2_25_32
  · exact cx2_25_33
  · exact cx2_25_34
  · exact cx2_25_35
  · exact cx2_25_36
  · exact cx2_25_37
  · exact cx2_25_38
  · exact cx2_25_39
theorem cx2_27_0 : (valIs (ev cx1 50000 (.call 27 [.str [43]] H0)) (.int .i64 10) && plainV (.int .i64 10) && List.all [.str [43]] plainA) = true := by decide +kernel
theorem cx2_27_1 : (valIs (ev cx1 50000 (.call 27 [.str [45]] H0)) (.int .i64 10) && plainV (.int .i64 10) && List.all [.str [45]] plainA) = true := by decide +kernel
theorem cx2_27_2 : (valIs (ev cx1 50000 (.call 27 [.str [110, 111, 116]] H0)) (.int .i64 10) && plainV (.int .i64 10) && List.all [.str [110, 111, 116]] plainA) = true := by decide +kernel
theorem cx2_27_3 : (valIs (ev cx1 50000 (.call 27 [.str [98, 110, 111, 116]] H0)) (.int .i64 10) && plainV (.int .i64 10) && List.all [.str [98, 110, 111, 116]] plainA) = true := by decide +kernel
theorem cx2_27_4 : (valIs (ev cx1 50000 (.call 27 [.str [42]] H0)) (.int .i64 0) && plainV (.int .i64 0) && List.all [.str [42]] plainA) = true := by decide +kernel
theorem cx2_27_5 : (valIs (ev cx1 50000 (.call 27 [.str [99, 97, 116, 99, 104]] H0)) (.int .i64 0) && plainV (.int .i64 0) && List.all [.str [99, 97, 116, 99, 104]] plainA) = true := by decide +kernel
theorem cx2_27_6 : (valIs (ev cx1 50000 (.call 27 [.str [61]] H0)) (.int .i64 0) && plainV (.int .i64 0) && List.all [.str [61]] plainA) = true := by decide +kernel
theorem cx2_27_7 : (valIs (ev cx1 50000 (.call 27 [.str [58, 58]] H0)) (.int .i64 0) && plainV (.int .i64 0) && List.all [.str [58, 58]] plainA) = true := by decide +kernel
theorem cx2_27_8 : (valIs (ev cx1 50000 (.call 27 [.str [100, 105, 118]] H0)) (.int .i64 0) && plainV (.int .i64 0) && List.all [.str [100, 105, 118]] plainA) = true := by decide +kernel
theorem cx2_27_9 : (valIs (ev cx1 50000 (.call 27 [.str [97, 110, 100]] H0)) (.int .i64 0) && plainV (.int .i64 0) && List.all [.str [97, 110, 100]] plainA) = true := by decide +kernel
theorem cx2_27_10 : (valIs (ev cx1 50000 (.call 27 [.str [33]] H0)) (.int .i64 0) && plainV (.int .i64 0) && List.all [.str [33]] plainA) = true := by decide +kernel
theorem cx2_27_11 : (valIs (ev cx1 50000 (.call 27 [.str [35]] H0)) (.int .i64 0) && plainV (.int .i64 0) && List.all [.str [35]] plainA) = true := by decide +kernel
theorem cx2_27_12 : (valIs (ev cx1 50000 (.call 27 [.str [40]] H0)) (.int .i64 0) && plainV (.int .i64 0) && List.all [.str [40]] plainA) = true := by decide +kernel
theorem cx2_27_13 : (valIs (ev cx1 50000 (.call 27 [.str []] H0)) (.int .i64 0) && plainV (.int .i64 0) && List.all [.str []] plainA) = true := by decide +kernel
theorem cx2_27_14 : (valIs (ev cx1 50000 (.call 27 [.str [110, 111, 116, 116]] H0)) (.int .i64 0) && plainV (.int .i64 0) && List.all [.str [110, 111, 116, 116]] plainA) = true := by decide +kernel
theorem cx2_27_15 : (valIs (ev cx1 50000 (.call 27 [.str [61, 62]] H0)) (.int .i64 0) && plainV (.int .i64 0) && List.all [.str [61, 62]] plainA) = true := by decide +kernel
theorem cx2_27_16 : (valIs (ev cx1 50000 (.call 27 [.str [60, 45]] H0)) (.int .i64 0) && plainV (.int .i64 0) && List.all [.str [60, 45]] plainA) = true := by decide +kernel
theorem cx2_27_17 : (valIs (ev cx1 50000 (.call 27 [.str [124, 124]] H0)) (.int .i64 0) && plainV (.int .i64 0) && List.all [.str [124, 124]] plainA) = true := by decide +kernel
theorem cx2_27_18 : (valIs (ev cx1 50000 (.call 27 [.str [43, 43]] H0)) (.int .i64 0) && plainV (.int .i64 0) && List.all [.str [43, 43]] plainA) = true := by decide +kernel
noncomputable def cx2L27 : List (List AV × AV) := [([.str [43]], .int .i64 10), ([.str [45]], .int .i64 10), ([.str [110, 111, 116]], .int .i64 10), ([.str [98, 110, 111, 116]], .int .i64 10), ([.str [42]], .int .i64 0), ([.str [99, 97, 116, 99, 104]], .int .i64 0), ([.str [61]], .int .i64 0), ([.str [58, 58]], .int .i64 0), ([.str [100, 105, 118]], .int .i64 0), ([.str [97, 110, 100]], .int .i64 0), ([.str [33]], .int .i64 0), ([.str [35]], .int .i64 0), ([.str [40]], .int .i64 0), ([.str []], .int .i64 0), ([.str [110, 111, 116, 116]], .int .i64 0), ([.str [61, 62]], .int .i64 0), ([.str [60, 45]], .int .i64 0), ([.str [124, 124]], .int .i64 0), ([.str [43, 43]], .int .i64 0)]
theorem cx2K27 : KnownOk cx1 50000 27 cx2L27 := by
  intro p hp
  simp only [cx2L27, List.mem_cons, List.not_mem_nil, or_false] at hp
  rcases hp with rfl | rfl | rfl | rfl | rfl | rfl | rfl | rfl | rfl | rfl | rfl | rfl | rfl | rfl | rfl | rfl | rfl | rfl | rfl
  · exact cx2_27_0
  · exact cx2_27_1
  · exact cx2_27_2
  · exact cx2_27_3
  · exact cx2_27_4
  · exact cx2_27_5
  · exact cx2_27_6
  · exact cx2_27_7
  · exact cx2_27_8
  · exact cx2_27_9
  · exact cx2_27_10
  · exact cx2_27_11
  · exact cx2_27_12
  · exact cx2_27_13
  · exact cx2_27_14
  · exact cx2_27_15
  · exact cx2_27_16
  · exact cx2_27_17
  · exact cx2_27_18
theorem cx2_29_0 : (valIs (ev cx1 50000 (.call 29 [.str [58, 58]] H0)) (.int .i64 2) && plainV (.int .i64 2) && List.all [.str [58, 58]] plainA) = true := by decide +kernel
theorem cx2_29_1 : (valIs (ev cx1 50000 (.call 29 [.str [124]] H0)) (.int .i64 2) && plainV (.int .i64 2) && List.all [.str [124]] plainA) = true := by decide +kernel
theorem cx2_29_2 : (valIs (ev cx1 50000 (.call 29 [.str [61]] H0)) (.int .i64 4) && plainV (.int .i64 4) && List.all [.str [61]] plainA) = true := by decide +kernel
theorem cx2_29_3 : (valIs (ev cx1 50000 (.call 29 [.str [33]] H0)) (.int .i64 4) && plainV (.int .i64 4) && List.all [.str [33]] plainA) = true := by decide +kernel
theorem cx2_29_4 : (valIs (ev cx1 50000 (.call 29 [.str [111, 114, 101, 108, 115, 101]] H0)) (.int .i64 5) && plainV (.int .i64 5) && List.all [.str [111, 114, 101, 108, 115, 101]] plainA) = true := by decide +kernel
theorem cx2_29_5 : (valIs (ev cx1 50000 (.call 29 [.str [97, 110, 100, 97, 108, 115, 111]] H0)) (.int .i64 6) && plainV (.int .i64 6) && List.all [.str [97, 110, 100, 97, 108, 115, 111]] plainA) = true := by decide +kernel
theorem cx2_29_6 : (valIs (ev cx1 50000 (.call 29 [.str [61, 61]] H0)) (.int .i64 7) && plainV (.int .i64 7) && List.all [.str [61, 61]] plainA) = true := by decide +kernel
theorem cx2_29_7 : (valIs (ev cx1 50000 (.call 29 [.str [47, 61]] H0)) (.int .i64 7) && plainV (.int .i64 7) && List.all [.str [47, 61]] plainA) = true := by decide +kernel
theorem cx2_29_8 : (valIs (ev cx1 50000 (.call 29 [.str [61, 60]] H0)) (.int .i64 7) && plainV (.int .i64 7) && List.all [.str [61, 60]] plainA) = true := by decide +kernel
theorem cx2_29_9 : (valIs (ev cx1 50000 (.call 29 [.str [60]] H0)) (.int .i64 7) && plainV (.int .i64 7) && List.all [.str [60]] plainA) = true := by decide +kernel
theorem cx2_29_10 : (valIs (ev cx1 50000 (.call 29 [.str [62, 61]] H0)) (.int .i64 7) && plainV (.int .i64 7) && List.all [.str [62, 61]] plainA) = true := by decide +kernel
theorem cx2_29_11 : (valIs (ev cx1 50000 (.call 29 [.str [62]] H0)) (.int .i64 7) && plainV (.int .i64 7) && List.all [.str [62]] plainA) = true := by decide +kernel
theorem cx2_29_12 : (valIs (ev cx1 50000 (.call 29 [.str [61, 58, 61]] H0)) (.int .i64 7) && plainV (.int .i64 7) && List.all [.str [61, 58, 61]] plainA) = true := by decide +kernel
theorem cx2_29_13 : (valIs (ev cx1 50000 (.call 29 [.str [61, 47, 61]] H0)) (.int .i64 7) && plainV (.int .i64 7) && List.all [.str [61, 47, 61]] plainA) = true := by decide +kernel
theorem cx2_29_14 : (valIs (ev cx1 50000 (.call 29 [.str [43, 43]] H0)) (.int .i64 8) && plainV (.int .i64 8) && List.all [.str [43, 43]] plainA) = true := by decide +kernel
theorem cx2_29_15 : (valIs (ev cx1 50000 (.call 29 [.str [45, 45]] H0)) (.int .i64 8) && plainV (.int .i64 8) && List.all [.str [45, 45]] plainA) = true := by decide +kernel
theorem cx2_29_16 : (valIs (ev cx1 50000 (.call 29 [.str [43]] H0)) (.int .i64 8) && plainV (.int .i64 8) && List.all [.str [43]] plainA) = true := by decide +kernel
theorem cx2_29_17 : (valIs (ev cx1 50000 (.call 29 [.str [45]] H0)) (.int .i64 8) && plainV (.int .i64 8) && List.all [.str [45]] plainA) = true := by decide +kernel
theorem cx2_29_18 : (valIs (ev cx1 50000 (.call 29 [.str [98, 111, 114]] H0)) (.int .i64 8) && plainV (.int .i64 8) && List.all [.str [98, 111, 114]] plainA) = true := by decide +kernel
theorem cx2_29_19 : (valIs (ev cx1 50000 (.call 29 [.str [98, 120, 111, 114]] H0)) (.int .i64 8) && plainV (.int .i64 8) && List.all [.str [98, 120, 111, 114]] plainA) = true := by decide +kernel
theorem cx2_29_20 : (valIs (ev cx1 50000 (.call 29 [.str [98, 115, 108]] H0)) (.int .i64 8) && plainV (.int .i64 8) && List.all [.str [98, 115, 108]] plainA) = true := by decide +kernel
theorem cx2_29_21 : (valIs (ev cx1 50000 (.call 29 [.str [98, 115, 114]] H0)) (.int .i64 8) && plainV (.int .i64 8) && List.all [.str [98, 115, 114]] plainA) = true := by decide +kernel
theorem cx2_29_22 : (valIs (ev cx1 50000 (.call 29 [.str [111, 114]] H0)) (.int .i64 8) && plainV (.int .i64 8) && List.all [.str [111, 114]] plainA) = true := by decide +kernel
theorem cx2_29_23 : (valIs (ev cx1 50000 (.call 29 [.str [120, 111, 114]] H0)) (.int .i64 8) && plainV (.int .i64 8) && List.all [.str [120, 111, 114]] plainA) = true := by decide +kernel
theorem cx2_29_24 : (valIs (ev cx1 50000 (.call 29 [.str [42]] H0)) (.int .i64 9) && plainV (.int .i64 9) && List.all [.str [42]] plainA) = true := by decide +kernel
theorem cx2_29_25 : (valIs (ev cx1 50000 (.call 29 [.str [47]] H0)) (.int .i64 9) && plainV (.int .i64 9) && List.all [.str [47]] plainA) = true := by decide +kernel
theorem cx2_29_26 : (valIs (ev cx1 50000 (.call 29 [.str [100, 105, 118]] H0)) (.int .i64 9) && plainV (.int .i64 9) && List.all [.str [100, 105, 118]] plainA) = true := by decide +kernel
theorem cx2_29_27 : (valIs (ev cx1 50000 (.call 29 [.str [114, 101, 109]] H0)) (.int .i64 9) && plainV (.int .i64 9) && List.all [.str [114, 101, 109]] plainA) = true := by decide +kernel
theorem cx2_29_28 : (valIs (ev cx1 50000 (.call 29 [.str [98, 97, 110, 100]] H0)) (.int .i64 9) && plainV (.int .i64 9) && List.all [.str [98, 97, 110, 100]] plainA) = true := by decide +kernel
theorem cx2_29_29 : (valIs (ev cx1 50000 (.call 29 [.str [97, 110, 100]] H0)) (.int .i64 9) && plainV (.int .i64 9) && List.all [.str [97, 110, 100]] plainA) = true := by decide +kernel
theorem cx2_29_30 : (valIs (ev cx1 50000 (.call 29 [.str [110, 111, 116]] H0)) (.int .i64 0) && plainV (.int .i64 0) && List.all [.str [110, 111, 116]] plainA) = true := by decide +kernel
theorem cx2_29_31 : (valIs (ev cx1 50000 (.call 29 [.str [98, 110, 111, 116]] H0)) (.int .i64 0) && plainV (.int .i64 0) && List.all [.str [98, 110, 111, 116]] plainA) = true := by decide +kernel
theorem cx2_29_32 : (valIs (ev cx1 50000 (.call 29 [.str [99, 97, 116, 99, 104]] H0)) (.int .i64 0) && plainV (.int .i64 0) && List.all [.str [99, 97, 116, 99, 104]] plainA) = true := by decide +kernel
theorem cx2_29_33 : (valIs (ev cx1 50000 (.call 29 [.str [35]] H0)) (.int .i64 0) && plainV (.int .i64 0) && List.all [.str [35]] plainA) = true := by decide +kernel
theorem cx2_29_34 : (valIs (ev cx1 50000 (.call 29 [.str [40]] H0)) (.int .i64 0) && plainV (.int .i64 0) && List.all [.str [40]] plainA) = true := by decide +kernel
theorem cx2_29_35 : (valIs (ev cx1 50000 (.call 29 [.str []] H0)) (.int .i64 0) && plainV (.int .i64 0) && List.all [.str []] plainA) = true := by decide +kernel
theorem cx2_29_36 : (valIs (ev cx1 50000 (.call 29 [.str [110, 111, 116, 116]] H0)) (.int .i64 0) && plainV (.int .i64 0) && List.all [.str [110, 111, 116, 116]] plainA) = true := by decide +kernel
theorem cx2_29_37 : (valIs (ev cx1 50000 (.call 29 [.str [61, 62]] H0)) (.int .i64 0) && plainV (.int .i64 0) && List.all [.str [61, 62]] plainA) = true := by decide +kernel
theorem cx2_29_38 : (valIs (ev cx1 50000 (.call 29 [.str [60, 45]] H0)) (.int .i64 0) && plainV (.int .i64 0) && List.all [.str [60, 45]] plainA) = true := by decide +kernel
theorem cx2_29_39 : (valIs (ev cx1 50000 (.call 29 [.str [124, 124]] H0)) (.int .i64 0) && plainV (.int .i64 0) && List.all [.str [124, 124]] plainA) = true := by decide +kernel
noncomputable def cx2L29 : List (List AV × AV) := [([.str [58, 58]], .int .i64 2), ([.str [124]], .int .i64 2), ([.str [61]], .int .i64 4), ([.str [33]], .int .i64 4), ([.str [111, 114, 101, 108, 115, 101]], .int .i64 5), ([.str [97, 110, 100, 97, 108, 115, 111]], .int .i64 6), ([.str [61, 61]], .int .i64 7), ([.str [47, 61]], .int .i64 7), ([.str [61, 60]], .int .i64 7), ([.str [60]], .int .i64 7), ([.str [62, 61]], .int .i64 7), ([.str [62]], .int .i64 7), ([.str [61, 58, 61]], .int .i64 7), ([.str [61, 47, 61]], .int .i64 7), ([.str [43, 43]], .int .i64 8), ([.str [45, 45]], .int .i64 8), ([.str [43]], .int .i64 8), ([.str [45]], .int .i64 8), ([.str [98, 111, 114]], .int .i64 8), ([.str [98, 120, 111, 114]], .int .i64 8), ([.str [98, 115, 108]], .int .i64 8), ([.str [98, 115, 114]], .int .i64 8), ([.str [111, 114]], .int .i64 8), ([.str [120, 111, 114]], .int .i64 8), ([.str [42]], .int .i64 9), ([.str [47]], .int .i64 9), ([.str [100, 105, 118]], .int .i64 9), ([.str [114, 101, 109]], .int .i64 9), ([.str [98, 97, 110, 100]], .int .i64 9), ([.str [97, 110, 100]], .int .i64 9), ([.str [110, 111, 116]], .int .i64 0), ([.str [98, 110, 111, 116]], .int .i64 0), ([.str [99, 97, 116, 99, 104]], .int .i64 0), ([.str [35]], .int .i64 0), ([.str [40]], .int .i64 0), ([.str []], .int .i64 0), ([.str [110, 111, 116, 116]], .int .i64 0), ([.str [61, 62]], .int .i64 0), ([.str [60, 45]], .int .i64 0), ([.str [124, 124]], .int .i64 0)]
theorem cx2K29 : KnownOk cx1 50000 29 cx2L29 := by
  intro p hp
  simp only [cx2L29, List.mem_cons, List.not_mem_nil, or_false] at hp
  rcases hp with rfl | rfl | rfl | rfl | rfl | rfl | rfl | rfl | rfl | rfl | rfl | rfl | rfl | rfl | rfl | rfl | rfl | rfl | rfl | rfl | rfl | rfl | rfl | rfl | rfl | rfl | rfl | rfl | rfl | rfl | rfl | rfl | rfl | rfl | rfl | rfl | rfl | rfl | rfl | rfl
  · exact cx2_29_0
  · exact cx2_29_1
  · exact cx2_29_2
  · exact cx2_29_3
  · exact cx2_29_4
  · exact cx2_29_5
  · exact cx2_29_6
  · exact cx2_29_7
  · exact cx2_29_8
  · exact cx2_29_9
  · exact cx2_29_10
  · exact cx2_29_11
  · exact cx2_29_12
  · exact cx2_29_13
  · exact cx2_29_14
  · exact cx2_29_15
  · exact cx2_29_16
  · exact cx2_29_17
  · exact cx2_29_18
  · exact cx2_29_19
  · exact cx2_29_20
  · exact cx2_29_21
  · exact cx2_29_22
  · exact cx2_29_23
  · exact cx2_29_24
  · exact cx2_29_25
  · exact cx2_29_26
  · exact cx2_29_27
  · exact cx2_29_28
  · exact cx2_29_29
  · exact cx2_29_30
  · exact cx2_29_31
  · exact cx2_29_32
  · exact cx2_29_33
  · exact cx2_29_34
  · exact cx2_29_35
  · exact cx2_29_36
  · exact cx2_29_37
  · exact cx2_29_38
  · exact cx2_29_39
theorem cx2_31_0 : (valIs (ev cx1 50000 (.call 31 [.str [58, 58]] H0)) (.int .i64 1) && plainV (.int .i64 1) && List.all [.str [58, 58]] plainA) = true := by decide +kernel
theorem cx2_31_1 : (valIs (ev cx1 50000 (.call 31 [.str [124]] H0)) (.int .i64 3) && plainV (.int .i64 3) && List.all [.str [124]] plainA) = true := by decide +kernel
theorem cx2_31_2 : (valIs (ev cx1 50000 (.call 31 [.str [61]] H0)) (.int .i64 3) && plainV (.int .i64 3) && List.all [.str [61]] plainA) = true := by decide +kernel
theorem cx2_31_3 : (valIs (ev cx1 50000 (.call 31 [.str [33]] H0)) (.int .i64 3) && plainV (.int .i64 3) && List.all [.str [33]] plainA) = true := by decide +kernel
theorem cx2_31_4 : (valIs (ev cx1 50000 (.call 31 [.str [111, 114, 101, 108, 115, 101]] H0)) (.int .i64 4) && plainV (.int .i64 4) && List.all [.str [111, 114, 101, 108, 115, 101]] plainA) = true := by decide +kernel
theorem cx2_31_5 : (valIs (ev cx1 50000 (.call 31 [.str [97, 110, 100, 97, 108, 115, 111]] H0)) (.int .i64 5) && plainV (.int .i64 5) && List.all [.str [97, 110, 100, 97, 108, 115, 111]] plainA) = true := by decide +kernel
theorem cx2_31_6 : (valIs (ev cx1 50000 (.call 31 [.str [61, 61]] H0)) (.int .i64 7) && plainV (.int .i64 7) && List.all [.str [61, 61]] plainA) = true := by decide +kernel
theorem cx2_31_7 : (valIs (ev cx1 50000 (.call 31 [.str [47, 61]] H0)) (.int .i64 7) && plainV (.int .i64 7) && List.all [.str [47, 61]] plainA) = true := by decide +kernel
theorem cx2_31_8 : (valIs (ev cx1 50000 (.call 31 [.str [61, 60]] H0)) (.int .i64 7) && plainV (.int .i64 7) && List.all [.str [61, 60]] plainA) = true := by decide +kernel
theorem cx2_31_9 : (valIs (ev cx1 50000 (.call 31 [.str [60]] H0)) (.int .i64 7) && plainV (.int .i64 7) && List.all [.str [60]] plainA) = true := by decide +kernel
theorem cx2_31_10 : (valIs (ev cx1 50000 (.call 31 [.str [62, 61]] H0)) (.int .i64 7) && plainV (.int .i64 7) && List.all [.str [62, 61]] plainA) = true := by decide +kernel
theorem cx2_31_11 : (valIs (ev cx1 50000 (.call 31 [.str [62]] H0)) (.int .i64 7) && plainV (.int .i64 7) && List.all [.str [62]] plainA) = true := by decide +kernel
theorem cx2_31_12 : (valIs (ev cx1 50000 (.call 31 [.str [61, 58, 61]] H0)) (.int .i64 7) && plainV (.int .i64 7) && List.all [.str [61, 58, 61]] plainA) = true := by decide +kernel
theorem cx2_31_13 : (valIs (ev cx1 50000 (.call 31 [.str [61, 47, 61]] H0)) (.int .i64 7) && plainV (.int .i64 7) && List.all [.str [61, 47, 61]] plainA) = true := by decide +kernel
theorem cx2_31_14 : (valIs (ev cx1 50000 (.call 31 [.str [43, 43]] H0)) (.int .i64 7) && plainV (.int .i64 7) && List.all [.str [43, 43]] plainA) = true := by decide +kernel
theorem cx2_31_15 : (valIs (ev cx1 50000 (.call 31 [.str [45, 45]] H0)) (.int .i64 7) && plainV (.int .i64 7) && List.all [.str [45, 45]] plainA) = true := by decide +kernel
theorem cx2_31_16 : (valIs (ev cx1 50000 (.call 31 [.str [43]] H0)) (.int .i64 9) && plainV (.int .i64 9) && List.all [.str [43]] plainA) = true := by decide +kernel
theorem cx2_31_17 : (valIs (ev cx1 50000 (.call 31 [.str [45]] H0)) (.int .i64 9) && plainV (.int .i64 9) && List.all [.str [45]] plainA) = true := by decide +kernel
theorem cx2_31_18 : (valIs (ev cx1 50000 (.call 31 [.str [98, 111, 114]] H0)) (.int .i64 9) && plainV (.int .i64 9) && List.all [.str [98, 111, 114]] plainA) = true := by decide +kernel
theorem cx2_31_19 : (valIs (ev cx1 50000 (.call 31 [.str [98, 120, 111, 114]] H0)) (.int .i64 9) && plainV (.int .i64 9) && List.all [.str [98, 120, 111, 114]] plainA) = true := by decide +kernel
theorem cx2_31_20 : (valIs (ev cx1 50000 (.call 31 [.str [98, 115, 108]] H0)) (.int .i64 9) && plainV (.int .i64 9) && List.all [.str [98, 115, 108]] plainA) = true := by decide +kernel
theorem cx2_31_21 : (valIs (ev cx1 50000 (.call 31 [.str [98, 115, 114]] H0)) (.int .i64 9) && plainV (.int .i64 9) && List.all [.str [98, 115, 114]] plainA) = true := by decide +kernel
theorem cx2_31_22 : (valIs (ev cx1 50000 (.call 31 [.str [111, 114]] H0)) (.int .i64 9) && plainV (.int .i64 9) && List.all [.str [111, 114]] plainA) = true := by decide +kernel
theorem cx2_31_23 : (valIs (ev cx1 50000 (.call 31 [.str [120, 111, 114]] H0)) (.int .i64 9) && plainV (.int .i64 9) && List.all [.str [120, 111, 114]] plainA) = true := by decide +kernel
theorem cx2_31_24 : (valIs (ev cx1 50000 (.call 31 [.str [42]] H0)) (.int .i64 10) && plainV (.int .i64 10) && List.all [.str [42]] plainA) = true := by decide +kernel
theorem cx2_31_25 : (valIs (ev cx1 50000 (.call 31 [.str [47]] H0)) (.int .i64 10) && plainV (.int .i64 10) && List.all [.str [47]] plainA) = true := by decide +kernel
theorem cx2_31_26 : (valIs (ev cx1 50000 (.call 31 [.str [100, 105, 118]] H0)) (.int .i64 10) && plainV (.int .i64 10) && List.all [.str [100, 105, 118]] plainA) = true := by decide +kernel
theorem cx2_31_27 : (valIs (ev cx1 50000 (.call 31 [.str [114, 101, 109]] H0)) (.int .i64 10) && plainV (.int .i64 10) && List.all [.str [114, 101, 109]] plainA) = true := by decide +kernel
theorem cx2_31_28 : (valIs (ev cx1 50000 (.call 31 [.str [98, 97, 110, 100]] H0)) (.int .i64 10) && plainV (.int .i64 10) && List.all [.str [98, 97, 110, 100]] plainA) = true := by decide +kernel
theorem cx2_31_29 : (valIs (ev cx1 50000 (.call 31 [.str [97, 110, 100]] H0)) (.int .i64 10) && plainV (.int .i64 10) && List.all [.str [97, 110, 100]] plainA) = true := by decide +kernel
theorem cx2_31_30 : (valIs (ev cx1 50000 (.call 31 [.str [110, 111, 116]] H0)) (.int .i64 0) && plainV (.int .i64 0) && List.all [.str [110, 111, 116]] plainA) = true := by decide +kernel
theorem cx2_31_31 : (valIs (ev cx1 50000 (.call 31 [.str [98, 110, 111, 116]] H0)) (.int .i64 0) && plainV (.int .i64 0) && List.all [.str [98, 110, 111, 116]] plainA) = true := by decide +kernel
theorem cx2_31_32 : (valIs (ev cx1 50000 (.call 31 [.str [99, 97, 116, 99, 104]] H0)) (.int .i64 0) && plainV (.int .i64 0) && List.all [.str [99, 97, 116, 99, 104]] plainA) = true := by decide +kernel
theorem cx2_31_33 : (valIs (ev cx1 50000 (.call 31 [.str [35]] H0)) (.int .i64 0) && plainV (.int .i64 0) && List.all [.str [35]] plainA) = true := by decide +kernel
theorem cx2_31_34 : (valIs (ev cx1 50000 (.call 31 [.str [40]] H0)) (.int .i64 0) && plainV (.int .i64 0) && List.all [.str [40]] plainA) = true := by decide +kernel
theorem cx2_31_35 : (valIs (ev cx1 50000 (.call 31 [.str []] H0)) (.int .i64 0) && plainV (.int .i64 0) && List.all [.str []] plainA) = true := by decide +kernel
theorem cx2_31_36 : (valIs (ev cx1 50000 (.call 31 [.str [110, 111, 116, 116]] H0)) (.int .i64 0) && plainV (.int .i64 0) && List.all [.str [110, 111, 116, 116]] plainA) = true := by decide +kernel
theorem cx2_31_37 : (valIs (ev cx1 50000 (.call 31 [.str [61, 62]] H0)) (.int .i64 0) && plainV (.int .i64 0) && List.all [.str [61, 62]] plainA) = true := by decide +kernel
theorem cx2_31_38 : (valIs (ev cx1 50000 (.call 31 [.str [60, 45]] H0)) (.int .i64 0) && plainV (.int .i64 0) && List.all [.str [60, 45]] plainA) = true := by decide +kernel
theorem cx2_31_39 : (valIs (ev cx1 50000 (.call 31 [.str [124, 124]] H0)) (.int .i64 0) && plainV (.int .i64 0) && List.all [.str [124, 124]] plainA) = true := by decide +kernel
noncomputable def cx2L31 : List (List AV × AV) := [([.str [58, 58]], .int .i64 1), ([.str [124]], .int .i64 3), ([.str [61]], .int .i64 3), ([.str [33]], .int .i64 3), ([.str [111, 114, 101, 108, 115, 101]], .int .i64 4), ([.str [97, 110, 100, 97, 108, 115, 111]], .int .i64 5), ([.str [61, 61]], .int .i64 7), ([.str [47, 61]], .int .i64 7), ([.str [61, 60]], .int .i64 7), ([.str [60]], .int .i64 7), ([.str [62, 61]], .int .i64 7), ([.str [62]], .int .i64 7), ([.str [61, 58, 61]], .int .i64 7), ([.str [61, 47, 61]], .int .i64 7), ([.str [43, 43]], .int .i64 7), ([.str [45, 45]], .int .i64 7), ([.str [43]], .int .i64 9), ([.str [45]], .int .i64 9), ([.str [98, 111, 114]], .int .i64 9), ([.str [98, 120, 111, 114]], .int .i64 9), ([.str [98, 115, 108]], .int .i64 9), ([.str [98, 115, 114]], .int .i64 9), ([.str [111, 114]], .int .i64 9), ([.str [120, 111, 114]], .int .i64 9), ([.str [42]], .int .i64 10), ([.str [47]], .int .i64 10), ([.str [100, 105, 118]], .int .i64 10), ([.str [114, 101, 109]], .int .i64 10), ([.str [98, 97, 110, 100]], .int .i64 10), ([.str [97, 110, 100]], .int .i64 10), ([.str [110, 111, 116]], .int .i64 0), ([.str [98, 110, 111, 116]], .int .i64 0), ([.str [99, 97, 116, 99, 104]], .int .i64 0), ([.str [35]], .int .i64 0), ([.str [40]], .int .i64 0), ([.str []], .int .i64 0), ([.str [110, 111, 116, 116]], .int .i64 0), ([.str [61, 62]], .int .i64 0), ([.str [60, 45]], .int .i64 0), ([.str [124, 124]], .int .i64 0)]
theorem cx2K31 : KnownOk cx1 50000 31 cx2L31 := by
  intro p hp
  simp only [cx2L31, List.mem_cons, List.not_mem_nil, or_false] at hp
  rcases hp with rfl | rfl | rfl | rfl | rfl | rfl | rfl | rfl | rfl | rfl | rfl | rfl | rfl | rfl | rfl | rfl | rfl | rfl | rfl | rfl | rfl | rfl | rfl | rfl | rfl | rfl | rfl | rfl | rfl | rfl | rfl | rfl | rfl | rfl | rfl | rfl | rfl | rfl | rfl | rfl
  · exact cx2_31_0
  · exact cx2_31_1
  · exact cx2_31_2
  · exact cx2_31_3
  · exact cx2_31_4
  · exact cx2_31_5
  · exact cx2_31_6
  · exact cx2_31_7
  · exact cx2_31_8
  · exact cx2_31_9
  · exact cx2_31_10
  · exact cx2_31_11
  · exact cx2_31_12
  · exact cx2_31_13
  · exact cx2_31_14
  · exact cx2_31_15
  · exact cx2_31_16
  · exact cx2_31_17
  · exact cx2_31_18
  · exact cx2_31_19
  · exact cx2_31_20
  · exact cx2_31_21
  · exact cx2_31_22
  · exact cx2_31_23
  · exact cx2_31_24
  · exact cx2_31_25
  · exact cx2_31_26
  · exact cx2_31_27
  · exact cx2_31_28
  · exact cx2_31_29
  · exact cx2_31_30
  · exact cx2_31_31
  · exact cx2_31_32
  · exact cx2_31_33
  · exact cx2_31_34
  · exact cx2_31_35
  · exact cx2_31_36
  · exact cx2_31_37
  · exact cx2_31_38
  · exact cx2_31_39
noncomputable def cx2T : PT (List (List AV × AV)) := (.node (.node (.node (.node (.node (.node .nil (some cx2L31) .nil) none .nil) none .nil) none (.node .nil none (.node .nil (some cx2L27) .nil))) none (.node (.node .nil none (.node .nil (some cx2L25) .nil)) none (.node .nil none (.node .nil (some cx2L29) .nil)))) none .nil)
theorem cx2A : cx2T.AllP (KnownOk cx1 50000) id := ⟨trivial, ⟨trivial, ⟨trivial, ⟨trivial, ⟨trivial, ⟨cx2K31, trivial, trivial⟩, trivial⟩, trivial⟩, ⟨trivial, trivial, ⟨cx2K27, trivial, trivial⟩⟩⟩, ⟨trivial, ⟨trivial, trivial, ⟨cx2K25, trivial, trivial⟩⟩, ⟨trivial, trivial, ⟨cx2K29, trivial, trivial⟩⟩⟩⟩, trivial⟩
noncomputable def cx2 : Cx := know cx1 cx2T
theorem cx2Ok : CxOk Try.prog cx2 planOk := know_ok cx1Ok cx2A
end Go.Proofs.Ytnikdnchoahngaa.Am
