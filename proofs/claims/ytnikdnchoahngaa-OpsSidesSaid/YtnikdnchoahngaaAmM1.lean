/- Outcomes of some calls, computed by Lean. Printed by memo.py. -/
import Derived.Test.YtnikdnchoahngaaAmOk
set_option maxRecDepth 100000
set_option maxHeartbeats 4000000
namespace Go.Proofs.Ytnikdnchoahngaa.Am
open Go

theorem cx1_22_0 : (valIs (ev cx 50000 (.call 22 [] H0)) (.bool true) && plainV (.bool true) && List.all [] plainA) = true := by decide +kernel
noncomputable def cx1L22 : List (List AV × AV) := [([], .bool true)]
theorem cx1K22 : KnownOk cx 50000 22 cx1L22 := by
  intro p hp
  simp only [cx1L22, List.mem_cons, List.not_mem_nil, or_false] at hp
  rcases hp with rfl
  exact cx1_22_0
theorem cx1_23_0 : (valIs (ev cx 50000 (.call 23 [.str [58, 58]] H0)) (.int .i64 1) && plainV (.int .i64 1) && List.all [.str [58, 58]] plainA) = true := by decide +kernel
theorem cx1_23_1 : (valIs (ev cx 50000 (.call 23 [.str [124]] H0)) (.int .i64 2) && plainV (.int .i64 2) && List.all [.str [124]] plainA) = true := by decide +kernel
theorem cx1_23_2 : (valIs (ev cx 50000 (.call 23 [.str [61]] H0)) (.int .i64 3) && plainV (.int .i64 3) && List.all [.str [61]] plainA) = true := by decide +kernel
theorem cx1_23_3 : (valIs (ev cx 50000 (.call 23 [.str [33]] H0)) (.int .i64 3) && plainV (.int .i64 3) && List.all [.str [33]] plainA) = true := by decide +kernel
theorem cx1_23_4 : (valIs (ev cx 50000 (.call 23 [.str [111, 114, 101, 108, 115, 101]] H0)) (.int .i64 4) && plainV (.int .i64 4) && List.all [.str [111, 114, 101, 108, 115, 101]] plainA) = true := by decide +kernel
theorem cx1_23_5 : (valIs (ev cx 50000 (.call 23 [.str [97, 110, 100, 97, 108, 115, 111]] H0)) (.int .i64 5) && plainV (.int .i64 5) && List.all [.str [97, 110, 100, 97, 108, 115, 111]] plainA) = true := by decide +kernel
theorem cx1_23_6 : (valIs (ev cx 50000 (.call 23 [.str [61, 61]] H0)) (.int .i64 6) && plainV (.int .i64 6) && List.all [.str [61, 61]] plainA) = true := by decide +kernel
theorem cx1_23_7 : (valIs (ev cx 50000 (.call 23 [.str [47, 61]] H0)) (.int .i64 6) && plainV (.int .i64 6) && List.all [.str [47, 61]] plainA) = true := by decide +kernel
theorem cx1_23_8 : (valIs (ev cx 50000 (.call 23 [.str [61, 60]] H0)) (.int .i64 6) && plainV (.int .i64 6) && List.all [.str [61, 60]] plainA) = true := by decide +kernel
theorem cx1_23_9 : (valIs (ev cx 50000 (.call 23 [.str [60]] H0)) (.int .i64 6) && plainV (.int .i64 6) && List.all [.str [60]] plainA) = true := by decide +kernel
theorem cx1_23_10 : (valIs (ev cx 50000 (.call 23 [.str [62, 61]] H0)) (.int .i64 6) && plainV (.int .i64 6) && List.all [.str [62, 61]] plainA) = true := by decide +kernel
theorem cx1_23_11 : (valIs (ev cx 50000 (.call 23 [.str [62]] H0)) (.int .i64 6) && plainV (.int .i64 6) && List.all [.str [62]] plainA) = true := by decide +kernel
theorem cx1_23_12 : (valIs (ev cx 50000 (.call 23 [.str [61, 58, 61]] H0)) (.int .i64 6) && plainV (.int .i64 6) && List.all [.str [61, 58, 61]] plainA) = true := by decide +kernel
theorem cx1_23_13 : (valIs (ev cx 50000 (.call 23 [.str [61, 47, 61]] H0)) (.int .i64 6) && plainV (.int .i64 6) && List.all [.str [61, 47, 61]] plainA) = true := by decide +kernel
theorem cx1_23_14 : (valIs (ev cx 50000 (.call 23 [.str [43, 43]] H0)) (.int .i64 7) && plainV (.int .i64 7) && List.all [.str [43, 43]] plainA) = true := by decide +kernel
theorem cx1_23_15 : (valIs (ev cx 50000 (.call 23 [.str [45, 45]] H0)) (.int .i64 7) && plainV (.int .i64 7) && List.all [.str [45, 45]] plainA) = true := by decide +kernel
theorem cx1_23_16 : (valIs (ev cx 50000 (.call 23 [.str [43]] H0)) (.int .i64 8) && plainV (.int .i64 8) && List.all [.str [43]] plainA) = true := by decide +kernel
theorem cx1_23_17 : (valIs (ev cx 50000 (.call 23 [.str [45]] H0)) (.int .i64 8) && plainV (.int .i64 8) && List.all [.str [45]] plainA) = true := by decide +kernel
theorem cx1_23_18 : (valIs (ev cx 50000 (.call 23 [.str [98, 111, 114]] H0)) (.int .i64 8) && plainV (.int .i64 8) && List.all [.str [98, 111, 114]] plainA) = true := by decide +kernel
theorem cx1_23_19 : (valIs (ev cx 50000 (.call 23 [.str [98, 120, 111, 114]] H0)) (.int .i64 8) && plainV (.int .i64 8) && List.all [.str [98, 120, 111, 114]] plainA) = true := by decide +kernel
theorem cx1_23_20 : (valIs (ev cx 50000 (.call 23 [.str [98, 115, 108]] H0)) (.int .i64 8) && plainV (.int .i64 8) && List.all [.str [98, 115, 108]] plainA) = true := by decide +kernel
theorem cx1_23_21 : (valIs (ev cx 50000 (.call 23 [.str [98, 115, 114]] H0)) (.int .i64 8) && plainV (.int .i64 8) && List.all [.str [98, 115, 114]] plainA) = true := by decide +kernel
theorem cx1_23_22 : (valIs (ev cx 50000 (.call 23 [.str [111, 114]] H0)) (.int .i64 8) && plainV (.int .i64 8) && List.all [.str [111, 114]] plainA) = true := by decide +kernel
theorem cx1_23_23 : (valIs (ev cx 50000 (.call 23 [.str [120, 111, 114]] H0)) (.int .i64 8) && plainV (.int .i64 8) && List.all [.str [120, 111, 114]] plainA) = true := by decide +kernel
theorem cx1_23_24 : (valIs (ev cx 50000 (.call 23 [.str [42]] H0)) (.int .i64 9) && plainV (.int .i64 9) && List.all [.str [42]] plainA) = true := by decide +kernel
theorem cx1_23_25 : (valIs (ev cx 50000 (.call 23 [.str [47]] H0)) (.int .i64 9) && plainV (.int .i64 9) && List.all [.str [47]] plainA) = true := by decide +kernel
theorem cx1_23_26 : (valIs (ev cx 50000 (.call 23 [.str [100, 105, 118]] H0)) (.int .i64 9) && plainV (.int .i64 9) && List.all [.str [100, 105, 118]] plainA) = true := by decide +kernel
theorem cx1_23_27 : (valIs (ev cx 50000 (.call 23 [.str [114, 101, 109]] H0)) (.int .i64 9) && plainV (.int .i64 9) && List.all [.str [114, 101, 109]] plainA) = true := by decide +kernel
theorem cx1_23_28 : (valIs (ev cx 50000 (.call 23 [.str [98, 97, 110, 100]] H0)) (.int .i64 9) && plainV (.int .i64 9) && List.all [.str [98, 97, 110, 100]] plainA) = true := by decide +kernel
theorem cx1_23_29 : (valIs (ev cx 50000 (.call 23 [.str [97, 110, 100]] H0)) (.int .i64 9) && plainV (.int .i64 9) && List.all [.str [97, 110, 100]] plainA) = true := by decide +kernel
theorem cx1_23_30 : (valIs (ev cx 50000 (.call 23 [.str [110, 111, 116]] H0)) (.int .i64 0) && plainV (.int .i64 0) && List.all [.str [110, 111, 116]] plainA) = true := by decide +kernel
theorem cx1_23_31 : (valIs (ev cx 50000 (.call 23 [.str [98, 110, 111, 116]] H0)) (.int .i64 0) && plainV (.int .i64 0) && List.all [.str [98, 110, 111, 116]] plainA) = true := by decide +kernel
theorem cx1_23_32 : (valIs (ev cx 50000 (.call 23 [.str [99, 97, 116, 99, 104]] H0)) (.int .i64 0) && plainV (.int .i64 0) && List.all [.str [99, 97, 116, 99, 104]] plainA) = true := by decide +kernel
theorem cx1_23_33 : (valIs (ev cx 50000 (.call 23 [.str [35]] H0)) (.int .i64 0) && plainV (.int .i64 0) && List.all [.str [35]] plainA) = true := by decide +kernel
theorem cx1_23_34 : (valIs (ev cx 50000 (.call 23 [.str [40]] H0)) (.int .i64 0) && plainV (.int .i64 0) && List.all [.str [40]] plainA) = true := by decide +kernel
theorem cx1_23_35 : (valIs (ev cx 50000 (.call 23 [.str []] H0)) (.int .i64 0) && plainV (.int .i64 0) && List.all [.str []] plainA) = true := by decide +kernel
theorem cx1_23_36 : (valIs (ev cx 50000 (.call 23 [.str [110, 111, 116, 116]] H0)) (.int .i64 0) && plainV (.int .i64 0) && List.all [.str [110, 111, 116, 116]] plainA) = true := by decide +kernel
theorem cx1_23_37 : (valIs (ev cx 50000 (.call 23 [.str [61, 62]] H0)) (.int .i64 0) && plainV (.int .i64 0) && List.all [.str [61, 62]] plainA) = true := by decide +kernel
theorem cx1_23_38 : (valIs (ev cx 50000 (.call 23 [.str [60, 45]] H0)) (.int .i64 0) && plainV (.int .i64 0) && List.all [.str [60, 45]] plainA) = true := by decide +kernel
theorem cx1_23_39 : (valIs (ev cx 50000 (.call 23 [.str [124, 124]] H0)) (.int .i64 0) && plainV (.int .i64 0) && List.all [.str [124, 124]] plainA) = true := by decide +kernel
noncomputable def cx1L23 : List (List AV × AV) := [([.str [58, 58]], .int .i64 1), ([.str [124]], .int .i64 2), ([.str [61]], .int .i64 3), ([.str [33]], .int .i64 3), ([.str [111, 114, 101, 108, 115, 101]], .int .i64 4), ([.str [97, 110, 100, 97, 108, 115, 111]], .int .i64 5), ([.str [61, 61]], .int .i64 6), ([.str [47, 61]], .int .i64 6), ([.str [61, 60]], .int .i64 6), ([.str [60]], .int .i64 6), ([.str [62, 61]], .int .i64 6), ([.str [62]], .int .i64 6), ([.str [61, 58, 61]], .int .i64 6), ([.str [61, 47, 61]], .int .i64 6), ([.str [43, 43]], .int .i64 7), ([.str [45, 45]], .int .i64 7), ([.str [43]], .int .i64 8), ([.str [45]], .int .i64 8), ([.str [98, 111, 114]], .int .i64 8), ([.str [98, 120, 111, 114]], .int .i64 8), ([.str [98, 115, 108]], .int .i64 8), ([.str [98, 115, 114]], .int .i64 8), ([.str [111, 114]], .int .i64 8), ([.str [120, 111, 114]], .int .i64 8), ([.str [42]], .int .i64 9), ([.str [47]], .int .i64 9), ([.str [100, 105, 118]], .int .i64 9), ([.str [114, 101, 109]], .int .i64 9), ([.str [98, 97, 110, 100]], .int .i64 9), ([.str [97, 110, 100]], .int .i64 9), ([.str [110, 111, 116]], .int .i64 0), ([.str [98, 110, 111, 116]], .int .i64 0), ([.str [99, 97, 116, 99, 104]], .int .i64 0), ([.str [35]], .int .i64 0), ([.str [40]], .int .i64 0), ([.str []], .int .i64 0), ([.str [110, 111, 116, 116]], .int .i64 0), ([.str [61, 62]], .int .i64 0), ([.str [60, 45]], .int .i64 0), ([.str [124, 124]], .int .i64 0)]
theorem cx1K23 : KnownOk cx 50000 23 cx1L23 := by
  intro p hp
  simp only [cx1L23, List.mem_cons, List.not_mem_nil, or_false] at hp
  rcases hp with rfl | rfl | rfl | rfl | rfl | rfl | rfl | rfl | rfl | rfl | rfl | rfl | rfl | rfl | rfl | rfl | rfl | rfl | rfl | rfl | rfl | rfl | rfl | rfl | rfl | rfl | rfl | rfl | rfl | rfl | rfl | rfl | rfl | rfl | rfl | rfl | rfl | rfl | rfl | rfl
  · exact cx1_23_0
  · exact cx1_23_1
  · exact cx1_23_2
  · exact cx1_23_3
  · exact cx1_23_4
  · exact cx1_23_5
  · exact cx1_23_6
  · exact cx1_23_7
  · exact cx1_23_8
  · exact cx1_23_9
  · exact cx1_23_10
  · exact cx1_23_11
  · exact cx1_23_12
  · exact cx1_23_13
  · exact cx1_23_14
  · exact cx1_23_15
  · exact cx1_23_16
  · exact cx1_23_17
  · exact cx1_23_18
  · exact cx1_23_19
  · exact cx1_23_20
  · exact cx1_23_21
  · exact cx1_23_22
  · exact cx1_23_23
  · exact cx1_23_24
  · exact cx1_23_25
  · exact cx1_23_26
  · exact cx1_23_27
  · exact cx1_23_28
  · exact cx1_23_29
  · exact cx1_23_30
  · exact cx1_23_31
  · exact cx1_23_32
  · exact cx1_23_33
  · exact cx1_23_34
  · exact cx1_23_35
  · exact cx1_23_36
  · exact cx1_23_37
  · exact cx1_23_38
  · exact cx1_23_39
theorem cx1_24_0 : (valIs (ev cx 50000 (.call 24 [.str [43]] H0)) (.int .i64 8) && plainV (.int .i64 8) && List.all [.str [43]] plainA) = true := by decide +kernel
theorem cx1_24_1 : (valIs (ev cx 50000 (.call 24 [.str [45]] H0)) (.int .i64 8) && plainV (.int .i64 8) && List.all [.str [45]] plainA) = true := by decide +kernel
theorem cx1_24_2 : (valIs (ev cx 50000 (.call 24 [.str [110, 111, 116]] H0)) (.int .i64 0) && plainV (.int .i64 0) && List.all [.str [110, 111, 116]] plainA) = true := by decide +kernel
theorem cx1_24_3 : (valIs (ev cx 50000 (.call 24 [.str [98, 110, 111, 116]] H0)) (.int .i64 0) && plainV (.int .i64 0) && List.all [.str [98, 110, 111, 116]] plainA) = true := by decide +kernel
theorem cx1_24_4 : (valIs (ev cx 50000 (.call 24 [.str [42]] H0)) (.int .i64 9) && plainV (.int .i64 9) && List.all [.str [42]] plainA) = true := by decide +kernel
theorem cx1_24_5 : (valIs (ev cx 50000 (.call 24 [.str [99, 97, 116, 99, 104]] H0)) (.int .i64 0) && plainV (.int .i64 0) && List.all [.str [99, 97, 116, 99, 104]] plainA) = true := by decide +kernel
theorem cx1_24_6 : (valIs (ev cx 50000 (.call 24 [.str [61]] H0)) (.int .i64 3) && plainV (.int .i64 3) && List.all [.str [61]] plainA) = true := by decide +kernel
theorem cx1_24_7 : (valIs (ev cx 50000 (.call 24 [.str [58, 58]] H0)) (.int .i64 1) && plainV (.int .i64 1) && List.all [.str [58, 58]] plainA) = true := by decide +kernel
theorem cx1_24_8 : (valIs (ev cx 50000 (.call 24 [.str [100, 105, 118]] H0)) (.int .i64 9) && plainV (.int .i64 9) && List.all [.str [100, 105, 118]] plainA) = true := by decide +kernel
theorem cx1_24_9 : (valIs (ev cx 50000 (.call 24 [.str [97, 110, 100]] H0)) (.int .i64 9) && plainV (.int .i64 9) && List.all [.str [97, 110, 100]] plainA) = true := by decide +kernel
theorem cx1_24_10 : (valIs (ev cx 50000 (.call 24 [.str [33]] H0)) (.int .i64 3) && plainV (.int .i64 3) && List.all [.str [33]] plainA) = true := by decide +kernel
theorem cx1_24_11 : (valIs (ev cx 50000 (.call 24 [.str [35]] H0)) (.int .i64 0) && plainV (.int .i64 0) && List.all [.str [35]] plainA) = true := by decide +kernel
theorem cx1_24_12 : (valIs (ev cx 50000 (.call 24 [.str [40]] H0)) (.int .i64 0) && plainV (.int .i64 0) && List.all [.str [40]] plainA) = true := by decide +kernel
theorem cx1_24_13 : (valIs (ev cx 50000 (.call 24 [.str []] H0)) (.int .i64 0) && plainV (.int .i64 0) && List.all [.str []] plainA) = true := by decide +kernel
theorem cx1_24_14 : (valIs (ev cx 50000 (.call 24 [.str [110, 111, 116, 116]] H0)) (.int .i64 0) && plainV (.int .i64 0) && List.all [.str [110, 111, 116, 116]] plainA) = true := by decide +kernel
theorem cx1_24_15 : (valIs (ev cx 50000 (.call 24 [.str [61, 62]] H0)) (.int .i64 0) && plainV (.int .i64 0) && List.all [.str [61, 62]] plainA) = true := by decide +kernel
theorem cx1_24_16 : (valIs (ev cx 50000 (.call 24 [.str [60, 45]] H0)) (.int .i64 0) && plainV (.int .i64 0) && List.all [.str [60, 45]] plainA) = true := by decide +kernel
theorem cx1_24_17 : (valIs (ev cx 50000 (.call 24 [.str [124, 124]] H0)) (.int .i64 0) && plainV (.int .i64 0) && List.all [.str [124, 124]] plainA) = true := by decide +kernel
theorem cx1_24_18 : (valIs (ev cx 50000 (.call 24 [.str [43, 43]] H0)) (.int .i64 7) && plainV (.int .i64 7) && List.all [.str [43, 43]] plainA) = true := by decide +kernel
noncomputable def cx1L24 : List (List AV × AV) := [([.str [43]], .int .i64 8), ([.str [45]], .int .i64 8), ([.str [110, 111, 116]], .int .i64 0), ([.str [98, 110, 111, 116]], .int .i64 0), ([.str [42]], .int .i64 9), ([.str [99, 97, 116, 99, 104]], .int .i64 0), ([.str [61]], .int .i64 3), ([.str [58, 58]], .int .i64 1), ([.str [100, 105, 118]], .int .i64 9), ([.str [97, 110, 100]], .int .i64 9), ([.str [33]], .int .i64 3), ([.str [35]], .int .i64 0), ([.str [40]], .int .i64 0), ([.str []], .int .i64 0), ([.str [110, 111, 116, 116]], .int .i64 0), ([.str [61, 62]], .int .i64 0), ([.str [60, 45]], .int .i64 0), ([.str [124, 124]], .int .i64 0), ([.str [43, 43]], .int .i64 7)]
theorem cx1K24 : KnownOk cx 50000 24 cx1L24 := by
  intro p hp
  simp only [cx1L24, List.mem_cons, List.not_mem_nil, or_false] at hp
  rcases hp with rfl | rfl | rfl | rfl | rfl | rfl | rfl | rfl | rfl | rfl | rfl | rfl | rfl | rfl | rfl | rfl | rfl | rfl | rfl
  · exact cx1_24_0
  · exact cx1_24_1
  · exact cx1_24_2
  · exact cx1_24_3
  · exact cx1_24_4
  · exact cx1_24_5
  · exact cx1_24_6
  · exact cx1_24_7
  · exact cx1_24_8
  · exact cx1_24_9
  · exact cx1_24_10
  · exact cx1_24_11
  · exact cx1_24_12
  · exact cx1_24_13
  · exact cx1_24_14
  · exact cx1_24_15
  · exact cx1_24_16
  · exact cx1_24_17
  · exact cx1_24_18
noncomputable def cx1T : PT (List (List AV × AV)) := (.node (.node (.node (.node .nil none (.node .nil (some cx1L23) .nil)) none .nil) none .nil) none (.node (.node (.node .nil none (.node .nil (some cx1L24) .nil)) none .nil) none (.node .nil none (.node (.node .nil (some cx1L22) .nil) none .nil))))
theorem cx1A : cx1T.AllP (KnownOk cx 50000) id := ⟨trivial, ⟨trivial, ⟨trivial, ⟨trivial, trivial, ⟨cx1K23, trivial, trivial⟩⟩, trivial⟩, trivial⟩, ⟨trivial, ⟨trivial, ⟨trivial, trivial, ⟨cx1K24, trivial, trivial⟩⟩, trivial⟩, ⟨trivial, trivial, ⟨trivial, ⟨cx1K22, trivial, trivial⟩, trivial⟩⟩⟩⟩
noncomputable def cx1 : Cx := know cx cx1T
theorem cx1Ok : CxOk Try.prog cx1 planOk := know_ok cxOk cx1A
end Go.Proofs.Ytnikdnchoahngaa.Am
