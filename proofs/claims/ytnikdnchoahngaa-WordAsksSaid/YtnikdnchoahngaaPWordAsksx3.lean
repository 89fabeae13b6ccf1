-- PRINTED BY print.sh 35421559b90ae4d0a3588c463048766b98c2df88dd9212a6774a882060cdf62d: not written by this session
import Derived.Test.YtnikdnchoahngaaPWordAsksx0
import Derived.Test.YtnikdnchoahngaaPWordAsksx1
import Derived.Test.YtnikdnchoahngaaPWordAsksx2
namespace Go.Proofs.Ytnikdnchoahngaa.PWordAsks
open Go.RowKit Go.Proofs.YtnikdnchoahngaaW.PrintWords Go.Proofs.YtnikdnchoahngaaW.PrintLast Go.Proofs.YtnikdnchoahngaaW.PrintMore
attribute [local go_sem] max2_int min2_int max_two min_two max_three min_three max_four min_four   -- for this text's walks alone
set_option linter.unusedVariables false
set_option linter.unusedSimpArgs false

/-! ### galleylaw3_WordAsks: function 3 -/
def galleylaw3_WordAsks.f (k : Nat) (a0 : ByteArray) (a1 : Int) : Option (Bool) := if (a0.size : Int) > 100 then ((galleylaw3_told.f k).bind fun t125 => (some t125)) else ((galleylaw3_told.f k).bind fun t126 => (if t126 = true then ((word_Reserved.f a0).bind fun t127 => ((galleyref1_Reserved.f k a0).bind fun t128 => (if (t127 == t128) = true then ((word_Plain.f k a0).bind fun t129 => ((galleyref1_Plain.f k a0).bind fun t130 => (if (t129 == t130) = true then ((word_Inner.f k a1).bind fun t131 => ((galleyref1_Inner.f a1).bind fun t132 => (if (t131 == t132) = true then ((word_Begins.f k a1).bind fun t133 => ((galleyref1_Begins.f k a1).bind fun t134 => (some (t133 == t134)))) else (some false)))) else (some false)))) else (some false)))) else (some false)))
theorem galleylaw3_WordAsks.mono : ∀ a0 a1 k, LeO (galleylaw3_WordAsks.f k a0 a1) (galleylaw3_WordAsks.f (k + 1) a0 a1) := by
  intro a0 a1 k
  unfold galleylaw3_WordAsks.f
  repeat' first
      | (with_reducible exact galleylaw3_told.mono _)
      | (with_reducible exact galleyref1_Begins.mono _ _)
      | (with_reducible exact galleyref1_Plain.mono _ _)
      | (with_reducible exact galleyref1_Reserved.mono _ _)
      | (with_reducible exact word_Begins.mono _ _)
      | (with_reducible exact word_Inner.mono _ _)
      | (with_reducible exact word_Plain.mono _ _)
      | (with_reducible exact LeO.refl _)
      | (with_reducible exact LeO.none _)
      | (with_reducible refine LeO.ite ?_ ?_)
      | (with_reducible refine LeO.bind ?_ (fun _ => ?_))
      | exact galleylaw3_told.mono _
      | exact galleyref1_Begins.mono _ _
      | exact galleyref1_Plain.mono _ _
      | exact galleyref1_Reserved.mono _ _
      | exact word_Begins.mono _ _
      | exact word_Inner.mono _ _
      | exact word_Plain.mono _ _
      | exact LeO.none _
      | refine LeO.ite ?_ ?_
      | refine LeO.bind ?_ (fun _ => ?_)
set_option maxHeartbeats 8000000 in
set_option maxRecDepth 100000 in
theorem galleylaw3_WordAsks.calls (k : Nat) (a0 : ByteArray) (a1 : Int) (r : Bool) (w : World) (h : galleylaw3_WordAsks.f k a0 a1 = some r) :
    Calls Try.prog 3 #[.string a0, .int .u8 a1] w fun e w' => e = .returned (.bool r) ∧ Below w.heap.size w w' := by
  have HB := Aside0.mk (Below.refl w.heap.size w)
  have H : (if (a0.size : Int) > 100 then ((galleylaw3_told.f k).bind fun t125 => (some t125)) else ((galleylaw3_told.f k).bind fun t126 => (if t126 = true then ((word_Reserved.f a0).bind fun t127 => ((galleyref1_Reserved.f k a0).bind fun t128 => (if (t127 == t128) = true then ((word_Plain.f k a0).bind fun t129 => ((galleyref1_Plain.f k a0).bind fun t130 => (if (t129 == t130) = true then ((word_Inner.f k a1).bind fun t131 => ((galleyref1_Inner.f a1).bind fun t132 => (if (t131 == t132) = true then ((word_Begins.f k a1).bind fun t133 => ((galleyref1_Begins.f k a1).bind fun t134 => (some (t133 == t134)))) else (some false)))) else (some false)))) else (some false)))) else (some false)))) = some r := h
  clear h
  by_cases c3 : (a0.size : Int) > 100
  · rw [if_pos c3] at H
    have c3b0 : decide (100 < (a0.size : Int)) = true := decide_eq_true c3
    have c3b1 : decide (100 < a0.size) = true := decide_eq_true (by omega)
    clear c3
    replace H := Option.bind_eq_some_iff.mp H
    obtain ⟨t125, A40, H⟩ := H
    replace H : (some t125) = some r := H
    have A4 := Aside0.mk A40
    clear A40
    obtain rfl := Option.some.inj H
    go_enter Try.func3, Try.ntmps3
    go_wp2_with (first | ((with_reducible refine gate_callee (f := 13) rfl ?_); refine goesL_ (some 8) rfl rfl Try.func13 (by kernel_rfl) rfl #[] rfl (by (try simp only [List.map_toArray, List.map_cons, List.map_nil]); first | done | rfl | (simp only [List.length_drop, List.length_take]; rfl)) ?_; (with_reducible refine (galleylaw3_told.calls k  t125 _ A4.out).mono ?_); rintro e w' ⟨rfl, ⟨nd, rfl⟩⟩; refine ⟨_, rfl, ?_⟩))
    go_ret
    exact ⟨by first | rfl | (simp [errW_none, errW_some] <;> rfl) | (simp [*, errW_none, errW_some] <;> rfl), by repeat (first | (with_reducible first | exact HB.out | apply below_alloc | apply pw_below_drewN | apply below_drew1) | exact HB.out)⟩
  · rw [if_neg c3] at H
    have c3b0 : decide (100 < (a0.size : Int)) = false := decide_eq_false c3
    have c3b1 : decide (100 < a0.size) = false := decide_eq_false (by omega)
    clear c3
    replace H := Option.bind_eq_some_iff.mp H
    obtain ⟨t126, A50, H⟩ := H
    replace H : (if t126 = true then ((word_Reserved.f a0).bind fun t127 => ((galleyref1_Reserved.f k a0).bind fun t128 => (if (t127 == t128) = true then ((word_Plain.f k a0).bind fun t129 => ((galleyref1_Plain.f k a0).bind fun t130 => (if (t129 == t130) = true then ((word_Inner.f k a1).bind fun t131 => ((galleyref1_Inner.f a1).bind fun t132 => (if (t131 == t132) = true then ((word_Begins.f k a1).bind fun t133 => ((galleyref1_Begins.f k a1).bind fun t134 => (some (t133 == t134)))) else (some false)))) else (some false)))) else (some false)))) else (some false)) = some r := H
    have A5 := Aside0.mk A50
    clear A50
    by_cases c6 : t126 = true
    · subst c6
      have H1 : ((word_Reserved.f a0).bind fun t127 => ((galleyref1_Reserved.f k a0).bind fun t128 => (if (t127 == t128) = true then ((word_Plain.f k a0).bind fun t129 => ((galleyref1_Plain.f k a0).bind fun t130 => (if (t129 == t130) = true then ((word_Inner.f k a1).bind fun t131 => ((galleyref1_Inner.f a1).bind fun t132 => (if (t131 == t132) = true then ((word_Begins.f k a1).bind fun t133 => ((galleyref1_Begins.f k a1).bind fun t134 => (some (t133 == t134)))) else (some false)))) else (some false)))) else (some false)))) = some r := by rw [if_pos rfl] at H; exact H
      clear H
      have H := H1
      clear H1
      replace H := Option.bind_eq_some_iff.mp H
      obtain ⟨t127, A70, H⟩ := H
      replace H : ((galleyref1_Reserved.f k a0).bind fun t128 => (if (t127 == t128) = true then ((word_Plain.f k a0).bind fun t129 => ((galleyref1_Plain.f k a0).bind fun t130 => (if (t129 == t130) = true then ((word_Inner.f k a1).bind fun t131 => ((galleyref1_Inner.f a1).bind fun t132 => (if (t131 == t132) = true then ((word_Begins.f k a1).bind fun t133 => ((galleyref1_Begins.f k a1).bind fun t134 => (some (t133 == t134)))) else (some false)))) else (some false)))) else (some false))) = some r := H
      have A7 := Aside0.mk A70
      clear A70
      replace H := Option.bind_eq_some_iff.mp H
      obtain ⟨t128, A80, H⟩ := H
      replace H : (if (t127 == t128) = true then ((word_Plain.f k a0).bind fun t129 => ((galleyref1_Plain.f k a0).bind fun t130 => (if (t129 == t130) = true then ((word_Inner.f k a1).bind fun t131 => ((galleyref1_Inner.f a1).bind fun t132 => (if (t131 == t132) = true then ((word_Begins.f k a1).bind fun t133 => ((galleyref1_Begins.f k a1).bind fun t134 => (some (t133 == t134)))) else (some false)))) else (some false)))) else (some false)) = some r := H
      have A8 := Aside0.mk A80
      clear A80
      by_cases c9 : (t127 == t128) = true
      · rw [if_pos c9] at H
        have c9b0 : (t127 == t128) = true := c9
        (try (have c9b1 : decide (t127 = t128) = true := by simpa using c9))
        (try (have c9b2 : (t127 == t128) = true := by simpa using c9))
        clear c9
        replace H := Option.bind_eq_some_iff.mp H
        obtain ⟨t129, A100, H⟩ := H
        replace H : ((galleyref1_Plain.f k a0).bind fun t130 => (if (t129 == t130) = true then ((word_Inner.f k a1).bind fun t131 => ((galleyref1_Inner.f a1).bind fun t132 => (if (t131 == t132) = true then ((word_Begins.f k a1).bind fun t133 => ((galleyref1_Begins.f k a1).bind fun t134 => (some (t133 == t134)))) else (some false)))) else (some false))) = some r := H
        have A10 := Aside0.mk A100
        clear A100
        replace H := Option.bind_eq_some_iff.mp H
        obtain ⟨t130, A110, H⟩ := H
        replace H : (if (t129 == t130) = true then ((word_Inner.f k a1).bind fun t131 => ((galleyref1_Inner.f a1).bind fun t132 => (if (t131 == t132) = true then ((word_Begins.f k a1).bind fun t133 => ((galleyref1_Begins.f k a1).bind fun t134 => (some (t133 == t134)))) else (some false)))) else (some false)) = some r := H
        have A11 := Aside0.mk A110
        clear A110
        by_cases c12 : (t129 == t130) = true
        · rw [if_pos c12] at H
          have c12b0 : (t129 == t130) = true := c12
          (try (have c12b1 : decide (t129 = t130) = true := by simpa using c12))
          (try (have c12b2 : (t129 == t130) = true := by simpa using c12))
          clear c12
          replace H := Option.bind_eq_some_iff.mp H
          obtain ⟨t131, A130, H⟩ := H
          replace H : ((galleyref1_Inner.f a1).bind fun t132 => (if (t131 == t132) = true then ((word_Begins.f k a1).bind fun t133 => ((galleyref1_Begins.f k a1).bind fun t134 => (some (t133 == t134)))) else (some false))) = some r := H
          have A13 := Aside0.mk A130
          clear A130
          replace H := Option.bind_eq_some_iff.mp H
          obtain ⟨t132, A140, H⟩ := H
          replace H : (if (t131 == t132) = true then ((word_Begins.f k a1).bind fun t133 => ((galleyref1_Begins.f k a1).bind fun t134 => (some (t133 == t134)))) else (some false)) = some r := H
          have A14 := Aside0.mk A140
          clear A140
          by_cases c15 : (t131 == t132) = true
          · rw [if_pos c15] at H
            have c15b0 : (t131 == t132) = true := c15
            (try (have c15b1 : decide (t131 = t132) = true := by simpa using c15))
            (try (have c15b2 : (t131 == t132) = true := by simpa using c15))
            clear c15
            replace H := Option.bind_eq_some_iff.mp H
            obtain ⟨t133, A160, H⟩ := H
            replace H : ((galleyref1_Begins.f k a1).bind fun t134 => (some (t133 == t134))) = some r := H
            have A16 := Aside0.mk A160
            clear A160
            replace H := Option.bind_eq_some_iff.mp H
            obtain ⟨t134, A170, H⟩ := H
            replace H : (some (t133 == t134)) = some r := H
            have A17 := Aside0.mk A170
            clear A170
            obtain rfl := Option.some.inj H
            go_enter Try.func3, Try.ntmps3
            go_wp2_with (first | ((with_reducible refine gate_callee (f := 13) rfl ?_); refine goesL_ (some 9) rfl rfl Try.func13 (by kernel_rfl) rfl #[] rfl (by (try simp only [List.map_toArray, List.map_cons, List.map_nil]); first | done | rfl | (simp only [List.length_drop, List.length_take]; rfl)) ?_; (with_reducible refine (galleylaw3_told.calls k  true _ A5.out).mono ?_); rintro e w' ⟨rfl, ⟨nd, rfl⟩⟩; refine ⟨_, rfl, ?_⟩) | (go_at_call 14; (with_reducible refine (word_Reserved.calls a0 t127 _ A7.out).mono ?_); rintro e w' ⟨rfl, ⟨nd, rfl⟩⟩) | (go_at_call 15; (with_reducible refine (galleyref1_Reserved.calls k a0 t128 _ A8.out).mono ?_); rintro e w18 ⟨rfl, hb⟩; have n0_ := Aside0.mk (below_step (by repeat (first | (with_reducible first | exact HB.out | apply below_alloc | apply pw_below_drewN | apply below_drew1) | exact HB.out)) hb); clear HB; have HB := n0_; clear n0_; (try clear hb); (try clear hb2); (try clear hk); (try clear hi)) | (go_at_call 16; (with_reducible refine (word_Plain.calls k a0 t129 _ A10.out).mono ?_); rintro e w' ⟨rfl, ⟨nd, rfl⟩⟩) | (go_at_call 17; (with_reducible refine (galleyref1_Plain.calls k a0 t130 _ A11.out).mono ?_); rintro e w19 ⟨rfl, hb⟩; have n0_ := Aside0.mk (below_step (by repeat (first | (with_reducible first | exact HB.out | apply below_alloc | apply pw_below_drewN | apply below_drew1) | exact HB.out)) hb); clear HB; have HB := n0_; clear n0_; (try clear hb); (try clear hb2); (try clear hk); (try clear hi)) | (go_at_call 18; (with_reducible refine (word_Inner.calls k a1 t131 _ A13.out).mono ?_); rintro e w' ⟨rfl, ⟨nd, rfl⟩⟩) | (go_at_call 19; (with_reducible refine (galleyref1_Inner.calls a1 t132 _ A14.out).mono ?_); rintro e w' ⟨rfl, ⟨nd, rfl⟩⟩) | (go_at_call 20; (with_reducible refine (word_Begins.calls k a1 t133 _ A16.out).mono ?_); rintro e w' ⟨rfl, ⟨nd, rfl⟩⟩) | (go_at_call 21; (with_reducible refine (galleyref1_Begins.calls k a1 t134 _ A17.out).mono ?_); rintro e w' ⟨rfl, ⟨nd, rfl⟩⟩))
            go_ret
            exact ⟨by first | rfl | (simp [errW_none, errW_some] <;> rfl) | (simp [*, errW_none, errW_some] <;> rfl), by repeat (first | (with_reducible first | exact HB.out | apply below_alloc | apply pw_below_drewN | apply below_drew1) | exact HB.out)⟩
          · rw [if_neg c15] at H
            have c15b0 : (t131 == t132) = false := by simpa using c15
            (try (have c15b1 : decide (t131 = t132) = false := by simpa using c15))
            (try (have c15b2 : (t131 == t132) = false := by simpa using c15))
            (try (have c15b3 : ¬ (t131 = t132) := by simpa using c15))
            clear c15
            obtain rfl := Option.some.inj H
            go_enter Try.func3, Try.ntmps3
            go_wp2_with (first | ((with_reducible refine gate_callee (f := 13) rfl ?_); refine goesL_ (some 9) rfl rfl Try.func13 (by kernel_rfl) rfl #[] rfl (by (try simp only [List.map_toArray, List.map_cons, List.map_nil]); first | done | rfl | (simp only [List.length_drop, List.length_take]; rfl)) ?_; (with_reducible refine (galleylaw3_told.calls k  true _ A5.out).mono ?_); rintro e w' ⟨rfl, ⟨nd, rfl⟩⟩; refine ⟨_, rfl, ?_⟩) | (go_at_call 14; (with_reducible refine (word_Reserved.calls a0 t127 _ A7.out).mono ?_); rintro e w' ⟨rfl, ⟨nd, rfl⟩⟩) | (go_at_call 15; (with_reducible refine (galleyref1_Reserved.calls k a0 t128 _ A8.out).mono ?_); rintro e w20 ⟨rfl, hb⟩; have n0_ := Aside0.mk (below_step (by repeat (first | (with_reducible first | exact HB.out | apply below_alloc | apply pw_below_drewN | apply below_drew1) | exact HB.out)) hb); clear HB; have HB := n0_; clear n0_; (try clear hb); (try clear hb2); (try clear hk); (try clear hi)) | (go_at_call 16; (with_reducible refine (word_Plain.calls k a0 t129 _ A10.out).mono ?_); rintro e w' ⟨rfl, ⟨nd, rfl⟩⟩) | (go_at_call 17; (with_reducible refine (galleyref1_Plain.calls k a0 t130 _ A11.out).mono ?_); rintro e w21 ⟨rfl, hb⟩; have n0_ := Aside0.mk (below_step (by repeat (first | (with_reducible first | exact HB.out | apply below_alloc | apply pw_below_drewN | apply below_drew1) | exact HB.out)) hb); clear HB; have HB := n0_; clear n0_; (try clear hb); (try clear hb2); (try clear hk); (try clear hi)) | (go_at_call 18; (with_reducible refine (word_Inner.calls k a1 t131 _ A13.out).mono ?_); rintro e w' ⟨rfl, ⟨nd, rfl⟩⟩) | (go_at_call 19; (with_reducible refine (galleyref1_Inner.calls a1 t132 _ A14.out).mono ?_); rintro e w' ⟨rfl, ⟨nd, rfl⟩⟩))
            go_ret
            exact ⟨by first | rfl | (simp [errW_none, errW_some] <;> rfl) | (simp [*, errW_none, errW_some] <;> rfl), by repeat (first | (with_reducible first | exact HB.out | apply below_alloc | apply pw_below_drewN | apply below_drew1) | exact HB.out)⟩
        · rw [if_neg c12] at H
          have c12b0 : (t129 == t130) = false := by simpa using c12
          (try (have c12b1 : decide (t129 = t130) = false := by simpa using c12))
          (try (have c12b2 : (t129 == t130) = false := by simpa using c12))
          (try (have c12b3 : ¬ (t129 = t130) := by simpa using c12))
          clear c12
          obtain rfl := Option.some.inj H
          go_enter Try.func3, Try.ntmps3
          go_wp2_with (first | ((with_reducible refine gate_callee (f := 13) rfl ?_); refine goesL_ (some 9) rfl rfl Try.func13 (by kernel_rfl) rfl #[] rfl (by (try simp only [List.map_toArray, List.map_cons, List.map_nil]); first | done | rfl | (simp only [List.length_drop, List.length_take]; rfl)) ?_; (with_reducible refine (galleylaw3_told.calls k  true _ A5.out).mono ?_); rintro e w' ⟨rfl, ⟨nd, rfl⟩⟩; refine ⟨_, rfl, ?_⟩) | (go_at_call 14; (with_reducible refine (word_Reserved.calls a0 t127 _ A7.out).mono ?_); rintro e w' ⟨rfl, ⟨nd, rfl⟩⟩) | (go_at_call 15; (with_reducible refine (galleyref1_Reserved.calls k a0 t128 _ A8.out).mono ?_); rintro e w22 ⟨rfl, hb⟩; have n0_ := Aside0.mk (below_step (by repeat (first | (with_reducible first | exact HB.out | apply below_alloc | apply pw_below_drewN | apply below_drew1) | exact HB.out)) hb); clear HB; have HB := n0_; clear n0_; (try clear hb); (try clear hb2); (try clear hk); (try clear hi)) | (go_at_call 16; (with_reducible refine (word_Plain.calls k a0 t129 _ A10.out).mono ?_); rintro e w' ⟨rfl, ⟨nd, rfl⟩⟩) | (go_at_call 17; (with_reducible refine (galleyref1_Plain.calls k a0 t130 _ A11.out).mono ?_); rintro e w23 ⟨rfl, hb⟩; have n0_ := Aside0.mk (below_step (by repeat (first | (with_reducible first | exact HB.out | apply below_alloc | apply pw_below_drewN | apply below_drew1) | exact HB.out)) hb); clear HB; have HB := n0_; clear n0_; (try clear hb); (try clear hb2); (try clear hk); (try clear hi)))
          go_ret
          exact ⟨by first | rfl | (simp [errW_none, errW_some] <;> rfl) | (simp [*, errW_none, errW_some] <;> rfl), by repeat (first | (with_reducible first | exact HB.out | apply below_alloc | apply pw_below_drewN | apply below_drew1) | exact HB.out)⟩
      · rw [if_neg c9] at H
        have c9b0 : (t127 == t128) = false := by simpa using c9
        (try (have c9b1 : decide (t127 = t128) = false := by simpa using c9))
        (try (have c9b2 : (t127 == t128) = false := by simpa using c9))
        (try (have c9b3 : ¬ (t127 = t128) := by simpa using c9))
        clear c9
        obtain rfl := Option.some.inj H
        go_enter Try.func3, Try.ntmps3
        go_wp2_with (first | ((with_reducible refine gate_callee (f := 13) rfl ?_); refine goesL_ (some 9) rfl rfl Try.func13 (by kernel_rfl) rfl #[] rfl (by (try simp only [List.map_toArray, List.map_cons, List.map_nil]); first | done | rfl | (simp only [List.length_drop, List.length_take]; rfl)) ?_; (with_reducible refine (galleylaw3_told.calls k  true _ A5.out).mono ?_); rintro e w' ⟨rfl, ⟨nd, rfl⟩⟩; refine ⟨_, rfl, ?_⟩) | (go_at_call 14; (with_reducible refine (word_Reserved.calls a0 t127 _ A7.out).mono ?_); rintro e w' ⟨rfl, ⟨nd, rfl⟩⟩) | (go_at_call 15; (with_reducible refine (galleyref1_Reserved.calls k a0 t128 _ A8.out).mono ?_); rintro e w24 ⟨rfl, hb⟩; have n0_ := Aside0.mk (below_step (by repeat (first | (with_reducible first | exact HB.out | apply below_alloc | apply pw_below_drewN | apply below_drew1) | exact HB.out)) hb); clear HB; have HB := n0_; clear n0_; (try clear hb); (try clear hb2); (try clear hk); (try clear hi)))
        go_ret
        exact ⟨by first | rfl | (simp [errW_none, errW_some] <;> rfl) | (simp [*, errW_none, errW_some] <;> rfl), by repeat (first | (with_reducible first | exact HB.out | apply below_alloc | apply pw_below_drewN | apply below_drew1) | exact HB.out)⟩
    · replace c6 := Bool.eq_false_iff.mpr c6
      subst c6
      have H1 : (some false) = some r := by rw [if_neg (show ¬ (false = true) by decide)] at H; exact H
      clear H
      have H := H1
      clear H1
      obtain rfl := Option.some.inj H
      go_enter Try.func3, Try.ntmps3
      go_wp2_with (first | ((with_reducible refine gate_callee (f := 13) rfl ?_); refine goesL_ (some 9) rfl rfl Try.func13 (by kernel_rfl) rfl #[] rfl (by (try simp only [List.map_toArray, List.map_cons, List.map_nil]); first | done | rfl | (simp only [List.length_drop, List.length_take]; rfl)) ?_; (with_reducible refine (galleylaw3_told.calls k  false _ A5.out).mono ?_); rintro e w' ⟨rfl, ⟨nd, rfl⟩⟩; refine ⟨_, rfl, ?_⟩))
      go_ret
      exact ⟨by first | rfl | (simp [errW_none, errW_some] <;> rfl) | (simp [*, errW_none, errW_some] <;> rfl), by repeat (first | (with_reducible first | exact HB.out | apply below_alloc | apply pw_below_drewN | apply below_drew1) | exact HB.out)⟩

/-- THE ONE PURE STATEMENT of galleylaw3_WordAsks: yours. -/
def galleylaw3_WordAsks.Pure : Prop := ∀ (a0 : ByteArray) (a1 : Int), a0.size ≤ 140737488351232 → (Lit.int .u8 a1).wf = true → ∃ k, galleylaw3_WordAsks.f k a0 a1 = some true
theorem galleylaw3_WordAsks.walk (P : galleylaw3_WordAsks.Pure) (a0 : ByteArray) (a1 : Int) (w : World) (w0 : a0.size ≤ 140737488351232) (w1 : (Lit.int .u8 a1).wf = true) :
    Calls Try.prog 3 #[.string a0, .int .u8 a1] w fun e w' => e = .returned (.bool true) ∧ Below w.heap.size w w' := by
  obtain ⟨k, h⟩ := P a0 a1 w0 w1
  refine (galleylaw3_WordAsks.calls k a0 a1 true w h).mono ?_
  rintro e w' ⟨rfl, hd⟩
  exact ⟨rfl, hd⟩

end Go.Proofs.Ytnikdnchoahngaa.PWordAsks
