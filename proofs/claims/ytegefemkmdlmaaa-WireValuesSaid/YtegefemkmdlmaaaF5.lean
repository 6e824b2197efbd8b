-- Printed by a program of this session (hand.py) out of the translation. Lean checks it.
import Derived.Test.YtegefemkmdlmaaaF0
import Derived.Test.YtegefemkmdlmaaaF25
import Derived.Test.YtegefemkmdlmaaaF28
import Derived.Test.YtegefemkmdlmaaaF29
import Derived.Test.YtegefemkmdlmaaaF30
import Derived.Test.YtegefemkmdlmaaaF31
import Derived.Test.YtegefemkmdlmaaaF32
import Derived.Test.YtegefemkmdlmaaaF33
namespace Go.Proofs.Ytegefemkmdlmaaa.P
open Go.RowKit Go.Proofs.YtegefemkmdlmaaaW.PrintWords Go.Proofs.YtegefemkmdlmaaaW.PrintLast Go.Proofs.YtegefemkmdlmaaaW.PrintMore
attribute [local go_sem] max2_int min2_int max_two min_two max_three min_three max_four min_four   -- for this text's walks alone
set_option linter.unusedVariables false
set_option linter.unusedSimpArgs false

/-! ### dasdlaw01_WireValues: function 5 -/
def dasdlaw01_WireValues.j0 : Nat → ByteArray → Int → Bool → ByteArray → Bool → Option (Bool)
  | 0, _, _, _, _, _ => none
  | k + 1, x0, x1, x2, x3, x20 => if x20 = true then ((dasdlaw01_awake.f k).bind fun t134 => (some t134)) else ((wire_AppendInt.f x0 x1).bind fun t135 => ((dasdref01_Int.f k x1).bind fun t136 => (if x0.size + t136.size ≤ 9223372036854775807 then (if t135.toList = (x0 ++ t136).toList then ((wire_AppendBool.f x0 x2).bind fun t137 => ((dasdref01_Bool.f x2).bind fun t138 => (if x0.size + t138.size ≤ 9223372036854775807 then (if t137.toList = (x0 ++ t138).toList then ((wire_AppendText.f x0 x3).bind fun t139 => ((dasdref01_Text.f k x3).bind fun t140 => (if x0.size + t140.size ≤ 9223372036854775807 then (some (t139.toList == (x0 ++ t140).toList)) else (none)))) else (some false)) else (none)))) else (some false)) else (none))))
def dasdlaw01_WireValues.f (k : Nat) (a0 : ByteArray) (a1 : Int) (a2 : Bool) (a3 : ByteArray) : Option (Bool) := (dasdlaw01_awake.f k).bind fun t133 => (if t133 = true then (if (a0.size : Int) > 100 then (dasdlaw01_WireValues.j0 k a0 a1 a2 a3 true) else (dasdlaw01_WireValues.j0 k a0 a1 a2 a3 (decide ((a3.size : Int) > 500)))) else (dasdlaw01_WireValues.j0 k a0 a1 a2 a3 true))
theorem dasdlaw01_WireValues.mono_l : ∀ k, (∀ y0 y1 y2 y3 y4, LeO (dasdlaw01_WireValues.j0 k y0 y1 y2 y3 y4) (dasdlaw01_WireValues.j0 (k + 1) y0 y1 y2 y3 y4))
  | 0 => fun _ _ _ _ _ r h => by simp [dasdlaw01_WireValues.j0] at h
  | k + 1 => by
    have ih0 := dasdlaw01_WireValues.mono_l k
    · intro y0 y1 y2 y3 y4
      unfold dasdlaw01_WireValues.j0
      repeat' first
      | (with_reducible exact ih0 _ _ _ _ _)
      | (with_reducible exact dasdlaw01_awake.mono _)
      | (with_reducible exact dasdref01_Int.mono _ _)
      | (with_reducible exact dasdref01_Text.mono _ _)
      | (with_reducible exact LeO.refl _)
      | (with_reducible exact LeO.none _)
      | (with_reducible refine LeO.ite ?_ ?_)
      | (with_reducible refine LeO.bind ?_ (fun _ => ?_))
      | exact ih0 _ _ _ _ _
      | exact dasdlaw01_awake.mono _
      | exact dasdref01_Int.mono _ _
      | exact dasdref01_Text.mono _ _
      | exact LeO.none _
      | refine LeO.ite ?_ ?_
      | refine LeO.bind ?_ (fun _ => ?_)
theorem dasdlaw01_WireValues.mono : ∀ a0 a1 a2 a3 k, LeO (dasdlaw01_WireValues.f k a0 a1 a2 a3) (dasdlaw01_WireValues.f (k + 1) a0 a1 a2 a3) := by
  intro a0 a1 a2 a3 k
  have ih0 := dasdlaw01_WireValues.mono_l k
  unfold dasdlaw01_WireValues.f
  repeat' first
      | (with_reducible exact ih0 _ _ _ _ _)
      | (with_reducible exact dasdlaw01_awake.mono _)
      | (with_reducible exact dasdref01_Int.mono _ _)
      | (with_reducible exact dasdref01_Text.mono _ _)
      | (with_reducible exact LeO.refl _)
      | (with_reducible exact LeO.none _)
      | (with_reducible refine LeO.ite ?_ ?_)
      | (with_reducible refine LeO.bind ?_ (fun _ => ?_))
      | exact ih0 _ _ _ _ _
      | exact dasdlaw01_awake.mono _
      | exact dasdref01_Int.mono _ _
      | exact dasdref01_Text.mono _ _
      | exact LeO.none _
      | refine LeO.ite ?_ ?_
      | refine LeO.bind ?_ (fun _ => ?_)
set_option maxHeartbeats 8000000 in
set_option maxRecDepth 100000 in
theorem dasdlaw01_WireValues.calls (k : Nat) (a0 : ByteArray) (a1 : Int) (a2 : Bool) (a3 : ByteArray) (r : Bool) (w : World) (h : dasdlaw01_WireValues.f k a0 a1 a2 a3 = some r) :
    Calls Try.prog 5 #[.string a0, .int .i64 a1, .bool a2, .string a3] w fun e w' => e = .returned (.bool r) ∧ Below w.heap.size w w' := by
  have HB := Aside0.mk (Below.refl w.heap.size w)
  have H : ((dasdlaw01_awake.f k).bind fun t133 => (if t133 = true then (if (a0.size : Int) > 100 then (dasdlaw01_WireValues.j0 k a0 a1 a2 a3 true) else (dasdlaw01_WireValues.j0 k a0 a1 a2 a3 (decide ((a3.size : Int) > 500)))) else (dasdlaw01_WireValues.j0 k a0 a1 a2 a3 true))) = some r := h
  clear h
  have HC5 := Aside0.mk H
  clear H
  go_enter Try.func5, Try.ntmps5
  go_upto_region 1 with (fail)
  go_cut [20] (fun v20 wc => ∃ (kq : Nat) (x20_4 : Bool), v20 = .bool x20_4 ∧ Aside0 (dasdlaw01_WireValues.j0 kq a0 a1 a2 a3 x20_4 = some r) ∧ Aside0 (kq ≤ k) ∧ Aside0 (Below w.heap.size w wc))
  case first =>
    have H := HC5.out
    clear HC5
    replace H := Option.bind_eq_some_iff.mp H
    obtain ⟨t133, A60, H⟩ := H
    replace H : (if t133 = true then (if (a0.size : Int) > 100 then (dasdlaw01_WireValues.j0 k a0 a1 a2 a3 true) else (dasdlaw01_WireValues.j0 k a0 a1 a2 a3 (decide ((a3.size : Int) > 500)))) else (dasdlaw01_WireValues.j0 k a0 a1 a2 a3 true)) = some r := H
    have A6 := Aside0.mk A60
    clear A60
    by_cases c7 : t133 = true
    · subst c7
      have H1 : (if (a0.size : Int) > 100 then (dasdlaw01_WireValues.j0 k a0 a1 a2 a3 true) else (dasdlaw01_WireValues.j0 k a0 a1 a2 a3 (decide ((a3.size : Int) > 500)))) = some r := by rw [if_pos rfl] at H; exact H
      clear H
      have H := H1
      clear H1
      by_cases c8 : (a0.size : Int) > 100
      · rw [if_pos c8] at H
        have c8b0 : decide (100 < (a0.size : Int)) = true := decide_eq_true c8
        have c8b1 : decide (100 < a0.size) = true := decide_eq_true (by omega)
        clear c8
        (first | rw [c8b0] | (simp only [i64_w, i32_w]; rw [c8b0]) | skip)
        have H' := Aside0.mk H
        clear H
        go_wp2_with (first | ((with_reducible refine gate_callee (f := 25) rfl ?_); refine goesL_ (some 9) rfl rfl Try.func25 (by kernel_rfl) rfl #[] rfl (by (try simp only [List.map_toArray, List.map_cons, List.map_nil]); first | done | rfl | (simp only [List.length_drop, List.length_take]; rfl)) ?_; (with_reducible refine (dasdlaw01_awake.calls k  true _ A6.out).mono ?_); rintro e w9 ⟨rfl, hb⟩; refine ⟨_, rfl, ?_⟩; have n0_ := Aside0.mk (below_step (by repeat (first | (with_reducible first | exact HB.out | apply below_alloc | apply pw_below_drewN | apply below_drew1) | exact HB.out)) hb); clear HB; have HB := n0_; clear n0_; (try clear hb); (try clear hb2); (try clear hk); (try clear hi)))
        go_meet
        case rel => exact ⟨_, (true), (by first | rfl | (simp; done) | (simp [*]; done)), H', ⟨by first | omega | exact Nat.le_refl _⟩, ⟨by repeat (first | (with_reducible first | exact HB.out | apply below_alloc | apply pw_below_drewN | apply below_drew1) | exact HB.out)⟩⟩
      · rw [if_neg c8] at H
        have c8b0 : decide (100 < (a0.size : Int)) = false := decide_eq_false c8
        have c8b1 : decide (100 < a0.size) = false := decide_eq_false (by omega)
        clear c8
        (first | rw [c8b0] | (simp only [i64_w, i32_w]; rw [c8b0]) | skip)
        have H' := Aside0.mk H
        clear H
        go_wp2_with (first | ((with_reducible refine gate_callee (f := 25) rfl ?_); refine goesL_ (some 9) rfl rfl Try.func25 (by kernel_rfl) rfl #[] rfl (by (try simp only [List.map_toArray, List.map_cons, List.map_nil]); first | done | rfl | (simp only [List.length_drop, List.length_take]; rfl)) ?_; (with_reducible refine (dasdlaw01_awake.calls k  true _ A6.out).mono ?_); rintro e w10 ⟨rfl, hb⟩; refine ⟨_, rfl, ?_⟩; have n0_ := Aside0.mk (below_step (by repeat (first | (with_reducible first | exact HB.out | apply below_alloc | apply pw_below_drewN | apply below_drew1) | exact HB.out)) hb); clear HB; have HB := n0_; clear n0_; (try clear hb); (try clear hb2); (try clear hk); (try clear hi)))
        go_meet
        case rel => exact ⟨_, (decide ((a3.size : Int) > 500)), (by first | rfl | (simp; done) | (simp [*]; done)), H', ⟨by first | omega | exact Nat.le_refl _⟩, ⟨by repeat (first | (with_reducible first | exact HB.out | apply below_alloc | apply pw_below_drewN | apply below_drew1) | exact HB.out)⟩⟩
    · replace c7 := Bool.eq_false_iff.mpr c7
      subst c7
      have H1 : (dasdlaw01_WireValues.j0 k a0 a1 a2 a3 true) = some r := by rw [if_neg (show ¬ (false = true) by decide)] at H; exact H
      clear H
      have H := H1
      clear H1
      have H' := Aside0.mk H
      clear H
      go_wp2_with (first | ((with_reducible refine gate_callee (f := 25) rfl ?_); refine goesL_ (some 9) rfl rfl Try.func25 (by kernel_rfl) rfl #[] rfl (by (try simp only [List.map_toArray, List.map_cons, List.map_nil]); first | done | rfl | (simp only [List.length_drop, List.length_take]; rfl)) ?_; (with_reducible refine (dasdlaw01_awake.calls k  false _ A6.out).mono ?_); rintro e w11 ⟨rfl, hb⟩; refine ⟨_, rfl, ?_⟩; have n0_ := Aside0.mk (below_step (by repeat (first | (with_reducible first | exact HB.out | apply below_alloc | apply pw_below_drewN | apply below_drew1) | exact HB.out)) hb); clear HB; have HB := n0_; clear n0_; (try clear hb); (try clear hb2); (try clear hk); (try clear hi)))
      go_meet
      case rel => exact ⟨_, (true), (by first | rfl | (simp; done) | (simp [*]; done)), H', ⟨by first | omega | exact Nat.le_refl _⟩, ⟨by repeat (first | (with_reducible first | exact HB.out | apply below_alloc | apply pw_below_drewN | apply below_drew1) | exact HB.out)⟩⟩
  case rest =>
    clear HC5
    try clear c2
    try clear p2
    try clear c5
    try clear c7
    try clear c8
    try clear c8b0
    try clear c8b1
    obtain ⟨kq, x20_4, rfl, HA, HJ4, HB⟩ := hcut
    cases kq with
    | zero => exact absurd HA.out (by simp [dasdlaw01_WireValues.j0])
    | succ kj4 =>
      have H := HA.out
      clear HA
      simp only [dasdlaw01_WireValues.j0] at H
      by_cases c12 : x20_4 = true
      · subst c12
        have H1 : ((dasdlaw01_awake.f kj4).bind fun t134 => (some t134)) = some r := by rw [if_pos rfl] at H; exact H
        clear H
        have H := H1
        clear H1
        replace H := Option.bind_eq_some_iff.mp H
        obtain ⟨t134, A130, H⟩ := H
        replace H : (some t134) = some r := H
        have A13 := Aside0.mk A130
        clear A130
        obtain rfl := Option.some.inj H
        go_wp2_with (first | ((with_reducible refine gate_callee (f := 25) rfl ?_); refine goesL_ (some 21) rfl rfl Try.func25 (by kernel_rfl) rfl #[] rfl (by (try simp only [List.map_toArray, List.map_cons, List.map_nil]); first | done | rfl | (simp only [List.length_drop, List.length_take]; rfl)) ?_; (with_reducible refine (dasdlaw01_awake.calls kj4  t134 _ A13.out).mono ?_); rintro e w14 ⟨rfl, hb⟩; refine ⟨_, rfl, ?_⟩; have n0_ := Aside0.mk (below_step (by repeat (first | (with_reducible first | exact HB.out | apply below_alloc | apply pw_below_drewN | apply below_drew1) | exact HB.out)) hb); clear HB; have HB := n0_; clear n0_; (try clear hb); (try clear hb2); (try clear hk); (try clear hi)))
        go_ret
        exact ⟨by first | rfl | (simp [errW_none, errW_some] <;> rfl) | (simp [*, errW_none, errW_some] <;> rfl), by repeat (first | (with_reducible first | exact HB.out | apply below_alloc | apply pw_below_drewN | apply below_drew1) | exact HB.out)⟩
      · replace c12 := Bool.eq_false_iff.mpr c12
        subst c12
        have H1 : ((wire_AppendInt.f a0 a1).bind fun t135 => ((dasdref01_Int.f kj4 a1).bind fun t136 => (if a0.size + t136.size ≤ 9223372036854775807 then (if t135.toList = (a0 ++ t136).toList then ((wire_AppendBool.f a0 a2).bind fun t137 => ((dasdref01_Bool.f a2).bind fun t138 => (if a0.size + t138.size ≤ 9223372036854775807 then (if t137.toList = (a0 ++ t138).toList then ((wire_AppendText.f a0 a3).bind fun t139 => ((dasdref01_Text.f kj4 a3).bind fun t140 => (if a0.size + t140.size ≤ 9223372036854775807 then (some (t139.toList == (a0 ++ t140).toList)) else (none)))) else (some false)) else (none)))) else (some false)) else (none)))) = some r := by rw [if_neg (show ¬ (false = true) by decide)] at H; exact H
        clear H
        have H := H1
        clear H1
        replace H := Option.bind_eq_some_iff.mp H
        obtain ⟨t135, A150, H⟩ := H
        replace H : ((dasdref01_Int.f kj4 a1).bind fun t136 => (if a0.size + t136.size ≤ 9223372036854775807 then (if t135.toList = (a0 ++ t136).toList then ((wire_AppendBool.f a0 a2).bind fun t137 => ((dasdref01_Bool.f a2).bind fun t138 => (if a0.size + t138.size ≤ 9223372036854775807 then (if t137.toList = (a0 ++ t138).toList then ((wire_AppendText.f a0 a3).bind fun t139 => ((dasdref01_Text.f kj4 a3).bind fun t140 => (if a0.size + t140.size ≤ 9223372036854775807 then (some (t139.toList == (a0 ++ t140).toList)) else (none)))) else (some false)) else (none)))) else (some false)) else (none))) = some r := H
        have A15 := Aside0.mk A150
        clear A150
        replace H := Option.bind_eq_some_iff.mp H
        obtain ⟨t136, A160, H⟩ := H
        replace H : (if a0.size + t136.size ≤ 9223372036854775807 then (if t135.toList = (a0 ++ t136).toList then ((wire_AppendBool.f a0 a2).bind fun t137 => ((dasdref01_Bool.f a2).bind fun t138 => (if a0.size + t138.size ≤ 9223372036854775807 then (if t137.toList = (a0 ++ t138).toList then ((wire_AppendText.f a0 a3).bind fun t139 => ((dasdref01_Text.f kj4 a3).bind fun t140 => (if a0.size + t140.size ≤ 9223372036854775807 then (some (t139.toList == (a0 ++ t140).toList)) else (none)))) else (some false)) else (none)))) else (some false)) else (none)) = some r := H
        have A16 := Aside0.mk A160
        clear A160
        by_cases c17 : a0.size + t136.size ≤ 9223372036854775807
        · rw [if_pos c17] at H
          have c17b0 := eq_true c17
          have c17b1 : decide (a0.size + t136.size ≤ 9223372036854775807) = true := decide_eq_true c17
          try have c17b2 : (9223372036854775807 < a0.size + t136.size) = False := eq_false (Nat.not_lt.2 c17)
          by_cases c18 : t135.toList = (a0 ++ t136).toList
          · rw [if_pos c18] at H
            have c18b0 : (t135.toList == (a0 ++ t136).toList) = true := beq_iff_eq.mpr c18
            have c18b1 : (t135.toList != (a0 ++ t136).toList) = false := bne_eq_false_iff_eq.mpr c18
            clear c18
            replace H := Option.bind_eq_some_iff.mp H
            obtain ⟨t137, A190, H⟩ := H
            replace H : ((dasdref01_Bool.f a2).bind fun t138 => (if a0.size + t138.size ≤ 9223372036854775807 then (if t137.toList = (a0 ++ t138).toList then ((wire_AppendText.f a0 a3).bind fun t139 => ((dasdref01_Text.f kj4 a3).bind fun t140 => (if a0.size + t140.size ≤ 9223372036854775807 then (some (t139.toList == (a0 ++ t140).toList)) else (none)))) else (some false)) else (none))) = some r := H
            have A19 := Aside0.mk A190
            clear A190
            replace H := Option.bind_eq_some_iff.mp H
            obtain ⟨t138, A200, H⟩ := H
            replace H : (if a0.size + t138.size ≤ 9223372036854775807 then (if t137.toList = (a0 ++ t138).toList then ((wire_AppendText.f a0 a3).bind fun t139 => ((dasdref01_Text.f kj4 a3).bind fun t140 => (if a0.size + t140.size ≤ 9223372036854775807 then (some (t139.toList == (a0 ++ t140).toList)) else (none)))) else (some false)) else (none)) = some r := H
            have A20 := Aside0.mk A200
            clear A200
            by_cases c21 : a0.size + t138.size ≤ 9223372036854775807
            · rw [if_pos c21] at H
              have c21b0 := eq_true c21
              have c21b1 : decide (a0.size + t138.size ≤ 9223372036854775807) = true := decide_eq_true c21
              try have c21b2 : (9223372036854775807 < a0.size + t138.size) = False := eq_false (Nat.not_lt.2 c21)
              by_cases c22 : t137.toList = (a0 ++ t138).toList
              · rw [if_pos c22] at H
                have c22b0 : (t137.toList == (a0 ++ t138).toList) = true := beq_iff_eq.mpr c22
                have c22b1 : (t137.toList != (a0 ++ t138).toList) = false := bne_eq_false_iff_eq.mpr c22
                clear c22
                replace H := Option.bind_eq_some_iff.mp H
                obtain ⟨t139, A230, H⟩ := H
                replace H : ((dasdref01_Text.f kj4 a3).bind fun t140 => (if a0.size + t140.size ≤ 9223372036854775807 then (some (t139.toList == (a0 ++ t140).toList)) else (none))) = some r := H
                have A23 := Aside0.mk A230
                clear A230
                replace H := Option.bind_eq_some_iff.mp H
                obtain ⟨t140, A240, H⟩ := H
                replace H : (if a0.size + t140.size ≤ 9223372036854775807 then (some (t139.toList == (a0 ++ t140).toList)) else (none)) = some r := H
                have A24 := Aside0.mk A240
                clear A240
                by_cases c25 : a0.size + t140.size ≤ 9223372036854775807
                · rw [if_pos c25] at H
                  have c25b0 := eq_true c25
                  have c25b1 : decide (a0.size + t140.size ≤ 9223372036854775807) = true := decide_eq_true c25
                  try have c25b2 : (9223372036854775807 < a0.size + t140.size) = False := eq_false (Nat.not_lt.2 c25)
                  obtain rfl := Option.some.inj H
                  go_wp2_with (first | ((with_reducible refine gate_callee (f := 28) rfl ?_); refine goesL_ (some 24) rfl rfl Try.func28 (by kernel_rfl) rfl #[.string a0, .int .i64 a1] rfl (by (try simp only [List.map_toArray, List.map_cons, List.map_nil]); first | done | rfl | (simp only [List.length_drop, List.length_take]; rfl)) ?_; (with_reducible refine (wire_AppendInt.calls a0 a1 t135 _ A15.out).mono ?_); rintro e w26 ⟨rfl, hb⟩; refine ⟨_, rfl, ?_⟩; have n0_ := Aside0.mk (below_step (by repeat (first | (with_reducible first | exact HB.out | apply below_alloc | apply pw_below_drewN | apply below_drew1) | exact HB.out)) hb); clear HB; have HB := n0_; clear n0_; (try clear hb); (try clear hb2); (try clear hk); (try clear hi)) | ((with_reducible refine gate_callee (f := 29) rfl ?_); refine goesL_ (some 27) rfl rfl Try.func29 (by kernel_rfl) rfl #[.int .i64 a1] rfl (by (try simp only [List.map_toArray, List.map_cons, List.map_nil]); first | done | rfl | (simp only [List.length_drop, List.length_take]; rfl)) ?_; (with_reducible refine (dasdref01_Int.calls kj4 a1 t136 _ A16.out).mono ?_); rintro e w27 ⟨rfl, hb⟩; refine ⟨_, rfl, ?_⟩; have n0_ := Aside0.mk (below_step (by repeat (first | (with_reducible first | exact HB.out | apply below_alloc | apply pw_below_drewN | apply below_drew1) | exact HB.out)) hb); clear HB; have HB := n0_; clear n0_; (try clear hb); (try clear hb2); (try clear hk); (try clear hi)) | (go_at_call 30; (with_reducible refine (wire_AppendBool.calls a0 a2 t137 _ A19.out).mono ?_); rintro e w' ⟨rfl, ⟨nd, rfl⟩⟩) | (go_at_call 31; (with_reducible refine (dasdref01_Bool.calls a2 t138 _ A20.out).mono ?_); rintro e w' ⟨rfl, ⟨nd, rfl⟩⟩) | (go_at_call 32; (with_reducible refine (wire_AppendText.calls a0 a3 t139 _ A23.out).mono ?_); rintro e w28 ⟨rfl, hb⟩; have n0_ := Aside0.mk (below_step (by repeat (first | (with_reducible first | exact HB.out | apply below_alloc | apply pw_below_drewN | apply below_drew1) | exact HB.out)) hb); clear HB; have HB := n0_; clear n0_; (try clear hb); (try clear hb2); (try clear hk); (try clear hi)) | (go_at_call 33; (with_reducible refine (dasdref01_Text.calls kj4 a3 t140 _ A24.out).mono ?_); rintro e w29 ⟨rfl, hb⟩; have n0_ := Aside0.mk (below_step (by repeat (first | (with_reducible first | exact HB.out | apply below_alloc | apply pw_below_drewN | apply below_drew1) | exact HB.out)) hb); clear HB; have HB := n0_; clear n0_; (try clear hb); (try clear hb2); (try clear hk); (try clear hi)))
                  go_ret
                  exact ⟨by first | rfl | (simp [errW_none, errW_some] <;> rfl) | (simp [*, errW_none, errW_some] <;> rfl), by repeat (first | (with_reducible first | exact HB.out | apply below_alloc | apply pw_below_drewN | apply below_drew1) | exact HB.out)⟩
                · rw [if_neg c25] at H
                  exact absurd H (by simp)
              · rw [if_neg c22] at H
                have c22b0 : (t137.toList == (a0 ++ t138).toList) = false := beq_eq_false_iff_ne.mpr c22
                have c22b1 : (t137.toList != (a0 ++ t138).toList) = true := bne_iff_ne.mpr c22
                obtain rfl := Option.some.inj H
                go_wp2_with (first | ((with_reducible refine gate_callee (f := 28) rfl ?_); refine goesL_ (some 24) rfl rfl Try.func28 (by kernel_rfl) rfl #[.string a0, .int .i64 a1] rfl (by (try simp only [List.map_toArray, List.map_cons, List.map_nil]); first | done | rfl | (simp only [List.length_drop, List.length_take]; rfl)) ?_; (with_reducible refine (wire_AppendInt.calls a0 a1 t135 _ A15.out).mono ?_); rintro e w30 ⟨rfl, hb⟩; refine ⟨_, rfl, ?_⟩; have n0_ := Aside0.mk (below_step (by repeat (first | (with_reducible first | exact HB.out | apply below_alloc | apply pw_below_drewN | apply below_drew1) | exact HB.out)) hb); clear HB; have HB := n0_; clear n0_; (try clear hb); (try clear hb2); (try clear hk); (try clear hi)) | ((with_reducible refine gate_callee (f := 29) rfl ?_); refine goesL_ (some 27) rfl rfl Try.func29 (by kernel_rfl) rfl #[.int .i64 a1] rfl (by (try simp only [List.map_toArray, List.map_cons, List.map_nil]); first | done | rfl | (simp only [List.length_drop, List.length_take]; rfl)) ?_; (with_reducible refine (dasdref01_Int.calls kj4 a1 t136 _ A16.out).mono ?_); rintro e w31 ⟨rfl, hb⟩; refine ⟨_, rfl, ?_⟩; have n0_ := Aside0.mk (below_step (by repeat (first | (with_reducible first | exact HB.out | apply below_alloc | apply pw_below_drewN | apply below_drew1) | exact HB.out)) hb); clear HB; have HB := n0_; clear n0_; (try clear hb); (try clear hb2); (try clear hk); (try clear hi)) | (go_at_call 30; (with_reducible refine (wire_AppendBool.calls a0 a2 t137 _ A19.out).mono ?_); rintro e w' ⟨rfl, ⟨nd, rfl⟩⟩) | (go_at_call 31; (with_reducible refine (dasdref01_Bool.calls a2 t138 _ A20.out).mono ?_); rintro e w' ⟨rfl, ⟨nd, rfl⟩⟩))
                go_ret
                exact ⟨by first | rfl | (simp [errW_none, errW_some] <;> rfl) | (simp [*, errW_none, errW_some] <;> rfl), by repeat (first | (with_reducible first | exact HB.out | apply below_alloc | apply pw_below_drewN | apply below_drew1) | exact HB.out)⟩
            · rw [if_neg c21] at H
              exact absurd H (by simp)
          · rw [if_neg c18] at H
            have c18b0 : (t135.toList == (a0 ++ t136).toList) = false := beq_eq_false_iff_ne.mpr c18
            have c18b1 : (t135.toList != (a0 ++ t136).toList) = true := bne_iff_ne.mpr c18
            obtain rfl := Option.some.inj H
            go_wp2_with (first | ((with_reducible refine gate_callee (f := 28) rfl ?_); refine goesL_ (some 24) rfl rfl Try.func28 (by kernel_rfl) rfl #[.string a0, .int .i64 a1] rfl (by (try simp only [List.map_toArray, List.map_cons, List.map_nil]); first | done | rfl | (simp only [List.length_drop, List.length_take]; rfl)) ?_; (with_reducible refine (wire_AppendInt.calls a0 a1 t135 _ A15.out).mono ?_); rintro e w32 ⟨rfl, hb⟩; refine ⟨_, rfl, ?_⟩; have n0_ := Aside0.mk (below_step (by repeat (first | (with_reducible first | exact HB.out | apply below_alloc | apply pw_below_drewN | apply below_drew1) | exact HB.out)) hb); clear HB; have HB := n0_; clear n0_; (try clear hb); (try clear hb2); (try clear hk); (try clear hi)) | ((with_reducible refine gate_callee (f := 29) rfl ?_); refine goesL_ (some 27) rfl rfl Try.func29 (by kernel_rfl) rfl #[.int .i64 a1] rfl (by (try simp only [List.map_toArray, List.map_cons, List.map_nil]); first | done | rfl | (simp only [List.length_drop, List.length_take]; rfl)) ?_; (with_reducible refine (dasdref01_Int.calls kj4 a1 t136 _ A16.out).mono ?_); rintro e w33 ⟨rfl, hb⟩; refine ⟨_, rfl, ?_⟩; have n0_ := Aside0.mk (below_step (by repeat (first | (with_reducible first | exact HB.out | apply below_alloc | apply pw_below_drewN | apply below_drew1) | exact HB.out)) hb); clear HB; have HB := n0_; clear n0_; (try clear hb); (try clear hb2); (try clear hk); (try clear hi)))
            go_ret
            exact ⟨by first | rfl | (simp [errW_none, errW_some] <;> rfl) | (simp [*, errW_none, errW_some] <;> rfl), by repeat (first | (with_reducible first | exact HB.out | apply below_alloc | apply pw_below_drewN | apply below_drew1) | exact HB.out)⟩
        · rw [if_neg c17] at H
          exact absurd H (by simp)

/-- THE ONE PURE STATEMENT of dasdlaw01_WireValues: yours. -/
def dasdlaw01_WireValues.Pure : Prop := ∀ (a0 : ByteArray) (a1 : Int) (a2 : Bool) (a3 : ByteArray), a0.size ≤ 140737488351232 → (Lit.int .i64 a1).wf = true → a3.size ≤ 140737488351232 → ∃ k, dasdlaw01_WireValues.f k a0 a1 a2 a3 = some true
theorem dasdlaw01_WireValues.walk (P : dasdlaw01_WireValues.Pure) (a0 : ByteArray) (a1 : Int) (a2 : Bool) (a3 : ByteArray) (w : World) (w0 : a0.size ≤ 140737488351232) (w1 : (Lit.int .i64 a1).wf = true) (w3 : a3.size ≤ 140737488351232) :
    Calls Try.prog 5 #[.string a0, .int .i64 a1, .bool a2, .string a3] w fun e w' => e = .returned (.bool true) ∧ Below w.heap.size w w' := by
  obtain ⟨k, h⟩ := P a0 a1 a2 a3 w0 w1 w3
  refine (dasdlaw01_WireValues.calls k a0 a1 a2 a3 true w h).mono ?_
  rintro e w' ⟨rfl, hd⟩
  exact ⟨rfl, hd⟩

end Go.Proofs.Ytegefemkmdlmaaa.P
