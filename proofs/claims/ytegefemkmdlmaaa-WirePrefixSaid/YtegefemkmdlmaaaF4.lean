-- Printed by a program of this session (hand.py) out of the translation. Lean checks it.
import Derived.Test.YtegefemkmdlmaaaF0
import Derived.Test.YtegefemkmdlmaaaF25
import Derived.Test.YtegefemkmdlmaaaF26
namespace Go.Proofs.Ytegefemkmdlmaaa.P
open Go.RowKit Go.Proofs.YtegefemkmdlmaaaW.PrintWords Go.Proofs.YtegefemkmdlmaaaW.PrintLast Go.Proofs.YtegefemkmdlmaaaW.PrintMore
attribute [local go_sem] max2_int min2_int max_two min_two max_three min_three max_four min_four   -- for this text's walks alone
set_option linter.unusedVariables false
set_option linter.unusedSimpArgs false

theorem pfx_a {x y : ByteArray} {j : Int} (hj : (if (y.size : Int) < x.size then (y.size : Int) else x.size) = j) (h : y.size < x.size) : ((x.extract 0 y.size).toList == y.toList) = ((x.extract 0 j.toNat).toList == (y.extract 0 j.toNat).toList) := by
  rw [if_pos (by omega)] at hj
  subst hj
  rw [Int.toNat_natCast, show y.extract 0 y.size = y from ByteArray.extract_zero_size]
theorem pfx_b {x y : ByteArray} {j : Int} (hj : (if (y.size : Int) < x.size then (y.size : Int) else x.size) = j) (h : ¬ y.size < x.size) : (x.toList == (y.extract 0 x.size).toList) = ((x.extract 0 j.toNat).toList == (y.extract 0 j.toNat).toList) := by
  rw [if_neg (by omega)] at hj
  subst hj
  rw [Int.toNat_natCast, show x.extract 0 x.size = x from ByteArray.extract_zero_size]
/-! ### dasdlaw01_WirePrefix: function 4 -/
def dasdlaw01_WirePrefix.j0 : Nat → Int → Int → ByteArray → ByteArray → Bool → Option (Bool)
  | 0, _, _, _, _, _ => none
  | k + 1, x0, x1, x5, x6, x31 => if x31 = true then (some false) else (if x0 < x1 then (if (x5.size : Int) > (x6.size : Int) then (some false) else (if x0 > x1 then (if (x5.size : Int) < (x6.size : Int) then (some false) else (if 0 ≤ (mn (x5.size : Int) (x6.size : Int)) then (if (mn (x5.size : Int) (x6.size : Int)) ≤ (x5.size : Int) then (if (mn (x5.size : Int) (x6.size : Int)) ≤ (x6.size : Int) then (some (((x5.extract 0 ((mn (x5.size : Int) (x6.size : Int)) : Int).toNat).toList == (x6.extract 0 ((mn (x5.size : Int) (x6.size : Int)) : Int).toNat).toList) == (x0 == x1))) else (none)) else (none)) else (none))) else (if 0 ≤ (mn (x5.size : Int) (x6.size : Int)) then (if (mn (x5.size : Int) (x6.size : Int)) ≤ (x5.size : Int) then (if (mn (x5.size : Int) (x6.size : Int)) ≤ (x6.size : Int) then (some (((x5.extract 0 ((mn (x5.size : Int) (x6.size : Int)) : Int).toNat).toList == (x6.extract 0 ((mn (x5.size : Int) (x6.size : Int)) : Int).toNat).toList) == (x0 == x1))) else (none)) else (none)) else (none)))) else (if x0 > x1 then (if (x5.size : Int) < (x6.size : Int) then (some false) else (if 0 ≤ (mn (x5.size : Int) (x6.size : Int)) then (if (mn (x5.size : Int) (x6.size : Int)) ≤ (x5.size : Int) then (if (mn (x5.size : Int) (x6.size : Int)) ≤ (x6.size : Int) then (some (((x5.extract 0 ((mn (x5.size : Int) (x6.size : Int)) : Int).toNat).toList == (x6.extract 0 ((mn (x5.size : Int) (x6.size : Int)) : Int).toNat).toList) == (x0 == x1))) else (none)) else (none)) else (none))) else (if 0 ≤ (mn (x5.size : Int) (x6.size : Int)) then (if (mn (x5.size : Int) (x6.size : Int)) ≤ (x5.size : Int) then (if (mn (x5.size : Int) (x6.size : Int)) ≤ (x6.size : Int) then (some (((x5.extract 0 ((mn (x5.size : Int) (x6.size : Int)) : Int).toNat).toList == (x6.extract 0 ((mn (x5.size : Int) (x6.size : Int)) : Int).toNat).toList) == (x0 == x1))) else (none)) else (none)) else (none))))
def dasdlaw01_WirePrefix.f (k : Nat) (a0 : Int) (a1 : Int) : Option (Bool) := (dasdlaw01_awake.f k).bind fun t126 => (if t126 = true then ((wire_AppendNumber.f (⟨#[]⟩ : ByteArray) a0).bind fun t127 => ((wire_AppendNumber.f (⟨#[]⟩ : ByteArray) a1).bind fun t128 => (if (t127.size : Int) < 1 then (dasdlaw01_WirePrefix.j0 k a0 a1 t127 t128 true) else (if (t127.size : Int) > 10 then (dasdlaw01_WirePrefix.j0 k a0 a1 t127 t128 true) else (if (t128.size : Int) < 1 then (dasdlaw01_WirePrefix.j0 k a0 a1 t127 t128 true) else (dasdlaw01_WirePrefix.j0 k a0 a1 t127 t128 (decide ((t128.size : Int) > 10)))))))) else (some false))
theorem dasdlaw01_WirePrefix.mono_l : ∀ k, (∀ y0 y1 y2 y3 y4, LeO (dasdlaw01_WirePrefix.j0 k y0 y1 y2 y3 y4) (dasdlaw01_WirePrefix.j0 (k + 1) y0 y1 y2 y3 y4))
  | 0 => fun _ _ _ _ _ r h => by simp [dasdlaw01_WirePrefix.j0] at h
  | k + 1 => by
    have ih0 := dasdlaw01_WirePrefix.mono_l k
    · intro y0 y1 y2 y3 y4
      unfold dasdlaw01_WirePrefix.j0
      repeat' first
      | (with_reducible exact ih0 _ _ _ _ _)
      | (with_reducible exact dasdlaw01_awake.mono _)
      | (with_reducible exact LeO.refl _)
      | (with_reducible exact LeO.none _)
      | (with_reducible refine LeO.ite ?_ ?_)
      | (with_reducible refine LeO.bind ?_ (fun _ => ?_))
      | exact ih0 _ _ _ _ _
      | exact dasdlaw01_awake.mono _
      | exact LeO.none _
      | refine LeO.ite ?_ ?_
      | refine LeO.bind ?_ (fun _ => ?_)
theorem dasdlaw01_WirePrefix.mono : ∀ a0 a1 k, LeO (dasdlaw01_WirePrefix.f k a0 a1) (dasdlaw01_WirePrefix.f (k + 1) a0 a1) := by
  intro a0 a1 k
  have ih0 := dasdlaw01_WirePrefix.mono_l k
  unfold dasdlaw01_WirePrefix.f
  repeat' first
      | (with_reducible exact ih0 _ _ _ _ _)
      | (with_reducible exact dasdlaw01_awake.mono _)
      | (with_reducible exact LeO.refl _)
      | (with_reducible exact LeO.none _)
      | (with_reducible refine LeO.ite ?_ ?_)
      | (with_reducible refine LeO.bind ?_ (fun _ => ?_))
      | exact ih0 _ _ _ _ _
      | exact dasdlaw01_awake.mono _
      | exact LeO.none _
      | refine LeO.ite ?_ ?_
      | refine LeO.bind ?_ (fun _ => ?_)
set_option maxHeartbeats 8000000 in
set_option maxRecDepth 100000 in
theorem dasdlaw01_WirePrefix.calls (k : Nat) (a0 : Int) (a1 : Int) (r : Bool) (w : World) (h : dasdlaw01_WirePrefix.f k a0 a1 = some r) :
    Calls Try.prog 4 #[.int .u64 a0, .int .u64 a1] w fun e w' => e = .returned (.bool r) ∧ Below w.heap.size w w' := by
  have HB := Aside0.mk (Below.refl w.heap.size w)
  have H : ((dasdlaw01_awake.f k).bind fun t126 => (if t126 = true then ((wire_AppendNumber.f (⟨#[]⟩ : ByteArray) a0).bind fun t127 => ((wire_AppendNumber.f (⟨#[]⟩ : ByteArray) a1).bind fun t128 => (if (t127.size : Int) < 1 then (dasdlaw01_WirePrefix.j0 k a0 a1 t127 t128 true) else (if (t127.size : Int) > 10 then (dasdlaw01_WirePrefix.j0 k a0 a1 t127 t128 true) else (if (t128.size : Int) < 1 then (dasdlaw01_WirePrefix.j0 k a0 a1 t127 t128 true) else (dasdlaw01_WirePrefix.j0 k a0 a1 t127 t128 (decide ((t128.size : Int) > 10)))))))) else (some false))) = some r := h
  clear h
  replace H := Option.bind_eq_some_iff.mp H
  obtain ⟨t126, A30, H⟩ := H
  replace H : (if t126 = true then ((wire_AppendNumber.f (⟨#[]⟩ : ByteArray) a0).bind fun t127 => ((wire_AppendNumber.f (⟨#[]⟩ : ByteArray) a1).bind fun t128 => (if (t127.size : Int) < 1 then (dasdlaw01_WirePrefix.j0 k a0 a1 t127 t128 true) else (if (t127.size : Int) > 10 then (dasdlaw01_WirePrefix.j0 k a0 a1 t127 t128 true) else (if (t128.size : Int) < 1 then (dasdlaw01_WirePrefix.j0 k a0 a1 t127 t128 true) else (dasdlaw01_WirePrefix.j0 k a0 a1 t127 t128 (decide ((t128.size : Int) > 10)))))))) else (some false)) = some r := H
  have A3 := Aside0.mk A30
  clear A30
  by_cases c4 : t126 = true
  · subst c4
    have H1 : ((wire_AppendNumber.f (⟨#[]⟩ : ByteArray) a0).bind fun t127 => ((wire_AppendNumber.f (⟨#[]⟩ : ByteArray) a1).bind fun t128 => (if (t127.size : Int) < 1 then (dasdlaw01_WirePrefix.j0 k a0 a1 t127 t128 true) else (if (t127.size : Int) > 10 then (dasdlaw01_WirePrefix.j0 k a0 a1 t127 t128 true) else (if (t128.size : Int) < 1 then (dasdlaw01_WirePrefix.j0 k a0 a1 t127 t128 true) else (dasdlaw01_WirePrefix.j0 k a0 a1 t127 t128 (decide ((t128.size : Int) > 10)))))))) = some r := by rw [if_pos rfl] at H; exact H
    clear H
    have H := H1
    clear H1
    replace H := Option.bind_eq_some_iff.mp H
    obtain ⟨t127, A50, H⟩ := H
    replace H : ((wire_AppendNumber.f (⟨#[]⟩ : ByteArray) a1).bind fun t128 => (if (t127.size : Int) < 1 then (dasdlaw01_WirePrefix.j0 k a0 a1 t127 t128 true) else (if (t127.size : Int) > 10 then (dasdlaw01_WirePrefix.j0 k a0 a1 t127 t128 true) else (if (t128.size : Int) < 1 then (dasdlaw01_WirePrefix.j0 k a0 a1 t127 t128 true) else (dasdlaw01_WirePrefix.j0 k a0 a1 t127 t128 (decide ((t128.size : Int) > 10))))))) = some r := H
    have A5 := Aside0.mk A50
    clear A50
    replace H := Option.bind_eq_some_iff.mp H
    obtain ⟨t128, A60, H⟩ := H
    replace H : (if (t127.size : Int) < 1 then (dasdlaw01_WirePrefix.j0 k a0 a1 t127 t128 true) else (if (t127.size : Int) > 10 then (dasdlaw01_WirePrefix.j0 k a0 a1 t127 t128 true) else (if (t128.size : Int) < 1 then (dasdlaw01_WirePrefix.j0 k a0 a1 t127 t128 true) else (dasdlaw01_WirePrefix.j0 k a0 a1 t127 t128 (decide ((t128.size : Int) > 10)))))) = some r := H
    have A6 := Aside0.mk A60
    clear A60
    have HC7 := Aside0.mk H
    clear H
    go_enter Try.func4, Try.ntmps4
    go_upto_region 4 with (first | (go_at_call 25; (with_reducible refine (dasdlaw01_awake.calls k  true _ A3.out).mono ?_); rintro e w8 ⟨rfl, hb⟩; have n0_ := Aside0.mk (below_step (by repeat (first | (with_reducible first | exact HB.out | apply below_alloc | apply pw_below_drewN | apply below_drew1) | exact HB.out)) hb); clear HB; have HB := n0_; clear n0_; (try clear hb); (try clear hb2); (try clear hk); (try clear hi)) | (go_at_call 26; (with_reducible refine (wire_AppendNumber.calls (⟨#[]⟩ : ByteArray) a0 t127 _ A5.out).mono ?_); rintro e w9 ⟨rfl, hb⟩; have n0_ := Aside0.mk (below_step (by repeat (first | (with_reducible first | exact HB.out | apply below_alloc | apply pw_below_drewN | apply below_drew1) | exact HB.out)) hb); clear HB; have HB := n0_; clear n0_; (try clear hb); (try clear hb2); (try clear hk); (try clear hi)) | (go_at_call 26; (with_reducible refine (wire_AppendNumber.calls (⟨#[]⟩ : ByteArray) a1 t128 _ A6.out).mono ?_); rintro e w10 ⟨rfl, hb⟩; have n0_ := Aside0.mk (below_step (by repeat (first | (with_reducible first | exact HB.out | apply below_alloc | apply pw_below_drewN | apply below_drew1) | exact HB.out)) hb); clear HB; have HB := n0_; clear n0_; (try clear hb); (try clear hb2); (try clear hk); (try clear hi)))
    repeat (go_quiet (first | (go_at_call 25; (with_reducible refine (dasdlaw01_awake.calls k  true _ A3.out).mono ?_); rintro e w8 ⟨rfl, hb⟩; have n0_ := Aside0.mk (below_step (by repeat (first | (with_reducible first | exact HB.out | apply below_alloc | apply pw_below_drewN | apply below_drew1) | exact HB.out)) hb); clear HB; have HB := n0_; clear n0_; (try clear hb); (try clear hb2); (try clear hk); (try clear hi)) | (go_at_call 26; (with_reducible refine (wire_AppendNumber.calls (⟨#[]⟩ : ByteArray) a0 t127 _ A5.out).mono ?_); rintro e w9 ⟨rfl, hb⟩; have n0_ := Aside0.mk (below_step (by repeat (first | (with_reducible first | exact HB.out | apply below_alloc | apply pw_below_drewN | apply below_drew1) | exact HB.out)) hb); clear HB; have HB := n0_; clear n0_; (try clear hb); (try clear hb2); (try clear hk); (try clear hi)) | (go_at_call 26; (with_reducible refine (wire_AppendNumber.calls (⟨#[]⟩ : ByteArray) a1 t128 _ A6.out).mono ?_); rintro e w10 ⟨rfl, hb⟩; have n0_ := Aside0.mk (below_step (by repeat (first | (with_reducible first | exact HB.out | apply below_alloc | apply pw_below_drewN | apply below_drew1) | exact HB.out)) hb); clear HB; have HB := n0_; clear n0_; (try clear hb); (try clear hb2); (try clear hk); (try clear hi))); go_upto_region 4 with (first | (go_at_call 25; (with_reducible refine (dasdlaw01_awake.calls k  true _ A3.out).mono ?_); rintro e w8 ⟨rfl, hb⟩; have n0_ := Aside0.mk (below_step (by repeat (first | (with_reducible first | exact HB.out | apply below_alloc | apply pw_below_drewN | apply below_drew1) | exact HB.out)) hb); clear HB; have HB := n0_; clear n0_; (try clear hb); (try clear hb2); (try clear hk); (try clear hi)) | (go_at_call 26; (with_reducible refine (wire_AppendNumber.calls (⟨#[]⟩ : ByteArray) a0 t127 _ A5.out).mono ?_); rintro e w9 ⟨rfl, hb⟩; have n0_ := Aside0.mk (below_step (by repeat (first | (with_reducible first | exact HB.out | apply below_alloc | apply pw_below_drewN | apply below_drew1) | exact HB.out)) hb); clear HB; have HB := n0_; clear n0_; (try clear hb); (try clear hb2); (try clear hk); (try clear hi)) | (go_at_call 26; (with_reducible refine (wire_AppendNumber.calls (⟨#[]⟩ : ByteArray) a1 t128 _ A6.out).mono ?_); rintro e w10 ⟨rfl, hb⟩; have n0_ := Aside0.mk (below_step (by repeat (first | (with_reducible first | exact HB.out | apply below_alloc | apply pw_below_drewN | apply below_drew1) | exact HB.out)) hb); clear HB; have HB := n0_; clear n0_; (try clear hb); (try clear hb2); (try clear hk); (try clear hi))))
    (try simp only [Act.put, List.setIfInBounds_toArray, List.set_cons_zero, List.set_cons_succ])
    go_cut [31] (fun v31 wc => ∃ (kq : Nat) (x31_6 : Bool), v31 = .bool x31_6 ∧ Aside0 (dasdlaw01_WirePrefix.j0 kq a0 a1 t127 t128 x31_6 = some r) ∧ Aside0 (kq ≤ k) ∧ Aside0 (Below w.heap.size w wc))
    case first =>
      have H := HC7.out
      clear HC7
      by_cases c11 : (t127.size : Int) < 1
      · rw [if_pos c11] at H
        have c11b0 : decide ((t127.size : Int) < 1) = true := decide_eq_true c11
        have c11b1 : decide (t127.size < 1) = true := decide_eq_true (by omega)
        clear c11
        (first | rw [c11b0] | (simp only [i64_w, i32_w]; rw [c11b0]) | skip)
        have H' := Aside0.mk H
        clear H
        all_goals (try (exfalso; have d1 := of_decide_eq_true c15b0; have d2 := of_decide_eq_true c17b0; omega))
        all_goals go_wp2
        all_goals (repeat (go_quiet (fail); try go_wp2))
        all_goals go_meet
        all_goals case rel => exact ⟨_, (true), (by first | rfl | (simp; done) | (simp [*]; done)), H', ⟨by first | omega | exact Nat.le_refl _⟩, ⟨by repeat (first | (with_reducible first | exact HB.out | apply below_alloc | apply pw_below_drewN | apply below_drew1) | exact HB.out)⟩⟩
      · rw [if_neg c11] at H
        have c11b0 : decide ((t127.size : Int) < 1) = false := decide_eq_false c11
        have c11b1 : decide (t127.size < 1) = false := decide_eq_false (by omega)
        clear c11
        (first | rw [c11b0] | (simp only [i64_w, i32_w]; rw [c11b0]) | skip)
        by_cases c12 : (t127.size : Int) > 10
        · rw [if_pos c12] at H
          have c12b0 : decide (10 < (t127.size : Int)) = true := decide_eq_true c12
          have c12b1 : decide (10 < t127.size) = true := decide_eq_true (by omega)
          clear c12
          have H' := Aside0.mk H
          clear H
          all_goals (try (exfalso; have d1 := of_decide_eq_true c15b0; have d2 := of_decide_eq_true c17b0; omega))
          all_goals go_wp2
          all_goals (repeat (go_quiet (fail); try go_wp2))
          all_goals go_meet
          all_goals case rel => exact ⟨_, (true), (by first | rfl | (simp; done) | (simp [*]; done)), H', ⟨by first | omega | exact Nat.le_refl _⟩, ⟨by repeat (first | (with_reducible first | exact HB.out | apply below_alloc | apply pw_below_drewN | apply below_drew1) | exact HB.out)⟩⟩
        · rw [if_neg c12] at H
          have c12b0 : decide (10 < (t127.size : Int)) = false := decide_eq_false c12
          have c12b1 : decide (10 < t127.size) = false := decide_eq_false (by omega)
          clear c12
          by_cases c13 : (t128.size : Int) < 1
          · rw [if_pos c13] at H
            have c13b0 : decide ((t128.size : Int) < 1) = true := decide_eq_true c13
            have c13b1 : decide (t128.size < 1) = true := decide_eq_true (by omega)
            clear c13
            have H' := Aside0.mk H
            clear H
            all_goals (try (exfalso; have d1 := of_decide_eq_true c15b0; have d2 := of_decide_eq_true c17b0; omega))
            all_goals go_wp2
            all_goals (repeat (go_quiet (fail); try go_wp2))
            all_goals go_meet
            all_goals case rel => exact ⟨_, (true), (by first | rfl | (simp; done) | (simp [*]; done)), H', ⟨by first | omega | exact Nat.le_refl _⟩, ⟨by repeat (first | (with_reducible first | exact HB.out | apply below_alloc | apply pw_below_drewN | apply below_drew1) | exact HB.out)⟩⟩
          · rw [if_neg c13] at H
            have c13b0 : decide ((t128.size : Int) < 1) = false := decide_eq_false c13
            have c13b1 : decide (t128.size < 1) = false := decide_eq_false (by omega)
            clear c13
            have H' := Aside0.mk H
            clear H
            all_goals (try (exfalso; have d1 := of_decide_eq_true c15b0; have d2 := of_decide_eq_true c17b0; omega))
            all_goals go_wp2
            all_goals (repeat (go_quiet (fail); try go_wp2))
            all_goals go_meet
            all_goals case rel => exact ⟨_, (decide ((t128.size : Int) > 10)), (by first | rfl | (simp; done) | (simp [*]; done)), H', ⟨by first | omega | exact Nat.le_refl _⟩, ⟨by repeat (first | (with_reducible first | exact HB.out | apply below_alloc | apply pw_below_drewN | apply below_drew1) | exact HB.out)⟩⟩
    case rest =>
      clear HC7
      try clear c1
      try clear p2
      try clear c4
      try clear c11
      try clear c11b0
      try clear c11b1
      try clear c12
      try clear c12b0
      try clear c12b1
      try clear c13
      try clear c13b0
      try clear c13b1
      obtain ⟨kq, x31_6, rfl, HA, HJ6, HB⟩ := hcut
      cases kq with
      | zero => exact absurd HA.out (by simp [dasdlaw01_WirePrefix.j0])
      | succ kj6 =>
        have H := HA.out
        clear HA
        simp only [dasdlaw01_WirePrefix.j0] at H
        by_cases c14 : x31_6 = true
        · subst c14
          have H1 : (some false) = some r := by rw [if_pos rfl] at H; exact H
          clear H
          have H := H1
          clear H1
          obtain rfl := Option.some.inj H
          all_goals (try (exfalso; have d1 := of_decide_eq_true c15b0; have d2 := of_decide_eq_true c17b0; omega))
          all_goals go_wp2
          all_goals (repeat (go_quiet (fail); try go_wp2))
          all_goals go_ret
          all_goals exact ⟨by first | rfl | (rw [pfx_a hNone_ (by omega)] <;> rfl) | (rw [pfx_b hNone_ (by omega)] <;> rfl) | (simp [errW_none, errW_some] <;> rfl) | (simp [*, errW_none, errW_some] <;> rfl), by repeat (first | (with_reducible first | exact HB.out | apply below_alloc | apply pw_below_drewN | apply below_drew1) | exact HB.out)⟩
        · replace c14 := Bool.eq_false_iff.mpr c14
          subst c14
          have H1 : (if a0 < a1 then (if (t127.size : Int) > (t128.size : Int) then (some false) else (if a0 > a1 then (if (t127.size : Int) < (t128.size : Int) then (some false) else (if 0 ≤ (mn (t127.size : Int) (t128.size : Int)) then (if (mn (t127.size : Int) (t128.size : Int)) ≤ (t127.size : Int) then (if (mn (t127.size : Int) (t128.size : Int)) ≤ (t128.size : Int) then (some (((t127.extract 0 ((mn (t127.size : Int) (t128.size : Int)) : Int).toNat).toList == (t128.extract 0 ((mn (t127.size : Int) (t128.size : Int)) : Int).toNat).toList) == (a0 == a1))) else (none)) else (none)) else (none))) else (if 0 ≤ (mn (t127.size : Int) (t128.size : Int)) then (if (mn (t127.size : Int) (t128.size : Int)) ≤ (t127.size : Int) then (if (mn (t127.size : Int) (t128.size : Int)) ≤ (t128.size : Int) then (some (((t127.extract 0 ((mn (t127.size : Int) (t128.size : Int)) : Int).toNat).toList == (t128.extract 0 ((mn (t127.size : Int) (t128.size : Int)) : Int).toNat).toList) == (a0 == a1))) else (none)) else (none)) else (none)))) else (if a0 > a1 then (if (t127.size : Int) < (t128.size : Int) then (some false) else (if 0 ≤ (mn (t127.size : Int) (t128.size : Int)) then (if (mn (t127.size : Int) (t128.size : Int)) ≤ (t127.size : Int) then (if (mn (t127.size : Int) (t128.size : Int)) ≤ (t128.size : Int) then (some (((t127.extract 0 ((mn (t127.size : Int) (t128.size : Int)) : Int).toNat).toList == (t128.extract 0 ((mn (t127.size : Int) (t128.size : Int)) : Int).toNat).toList) == (a0 == a1))) else (none)) else (none)) else (none))) else (if 0 ≤ (mn (t127.size : Int) (t128.size : Int)) then (if (mn (t127.size : Int) (t128.size : Int)) ≤ (t127.size : Int) then (if (mn (t127.size : Int) (t128.size : Int)) ≤ (t128.size : Int) then (some (((t127.extract 0 ((mn (t127.size : Int) (t128.size : Int)) : Int).toNat).toList == (t128.extract 0 ((mn (t127.size : Int) (t128.size : Int)) : Int).toNat).toList) == (a0 == a1))) else (none)) else (none)) else (none)))) = some r := by rw [if_neg (show ¬ (false = true) by decide)] at H; exact H
          clear H
          have H := H1
          clear H1
          by_cases c15 : a0 < a1
          · rw [if_pos c15] at H
            have c15b0 : decide (a0 < a1) = true := decide_eq_true c15
            clear c15
            by_cases c16 : (t127.size : Int) > (t128.size : Int)
            · rw [if_pos c16] at H
              have c16b0 : decide ((t128.size : Int) < (t127.size : Int)) = true := decide_eq_true c16
              have c16b1 : decide (t128.size < t127.size) = true := decide_eq_true (Int.ofNat_lt.mp c16)
              clear c16
              obtain rfl := Option.some.inj H
              all_goals (try (exfalso; have d1 := of_decide_eq_true c15b0; have d2 := of_decide_eq_true c17b0; omega))
              all_goals go_wp2
              all_goals (repeat (go_quiet (fail); try go_wp2))
              all_goals go_ret
              all_goals exact ⟨by first | rfl | (rw [pfx_a hNone_ (by omega)] <;> rfl) | (rw [pfx_b hNone_ (by omega)] <;> rfl) | (simp [errW_none, errW_some] <;> rfl) | (simp [*, errW_none, errW_some] <;> rfl), by repeat (first | (with_reducible first | exact HB.out | apply below_alloc | apply pw_below_drewN | apply below_drew1) | exact HB.out)⟩
            · rw [if_neg c16] at H
              have c16b0 : decide ((t128.size : Int) < (t127.size : Int)) = false := decide_eq_false c16
              have c16b1 : decide (t128.size < t127.size) = false := decide_eq_false (fun h => c16 (Int.ofNat_lt.mpr h))
              clear c16
              by_cases c17 : a0 > a1
              · rw [if_pos c17] at H
                have c17b0 : decide (a1 < a0) = true := decide_eq_true c17
                clear c17
                by_cases c18 : (t127.size : Int) < (t128.size : Int)
                · rw [if_pos c18] at H
                  have c18b0 : decide ((t127.size : Int) < (t128.size : Int)) = true := decide_eq_true c18
                  have c18b1 : decide (t127.size < t128.size) = true := decide_eq_true (Int.ofNat_lt.mp c18)
                  clear c18
                  obtain rfl := Option.some.inj H
                  all_goals (try (exfalso; have d1 := of_decide_eq_true c15b0; have d2 := of_decide_eq_true c17b0; omega))
                  all_goals go_wp2
                  all_goals (repeat (go_quiet (fail); try go_wp2))
                  all_goals go_ret
                  all_goals exact ⟨by first | rfl | (rw [pfx_a hNone_ (by omega)] <;> rfl) | (rw [pfx_b hNone_ (by omega)] <;> rfl) | (simp [errW_none, errW_some] <;> rfl) | (simp [*, errW_none, errW_some] <;> rfl), by repeat (first | (with_reducible first | exact HB.out | apply below_alloc | apply pw_below_drewN | apply below_drew1) | exact HB.out)⟩
                · rw [if_neg c18] at H
                  have c18b0 : decide ((t127.size : Int) < (t128.size : Int)) = false := decide_eq_false c18
                  have c18b1 : decide (t127.size < t128.size) = false := decide_eq_false (fun h => c18 (Int.ofNat_lt.mpr h))
                  clear c18
                  obtain ⟨ji19, hji19⟩ : ∃ j_ : Int, (mn (t127.size : Int) (t128.size : Int)) = j_ := ⟨_, rfl⟩
                  replace H : (if 0 ≤ (ji19) then (if (ji19) ≤ (t127.size : Int) then (if (ji19) ≤ (t128.size : Int) then (some (((t127.extract 0 ((ji19) : Int).toNat).toList == (t128.extract 0 ((ji19) : Int).toNat).toList) == (a0 == a1))) else (none)) else (none)) else (none)) = some r := by first | (rw [hji19] at H; exact H) | (simp only [hji19] at H ⊢; exact H)
                  have hji19_ : (if (t128.size : Int) < (t127.size : Int) then (t128.size : Int) else (t127.size : Int)) = ji19 := hji19
                  by_cases c20 : 0 ≤ (ji19)
                  · rw [if_pos c20] at H
                    have c20b0 := eq_true c20
                    have c20b1 : decide (0 ≤ (ji19)) = true := decide_eq_true c20
                    clear c20
                    by_cases c21 : (ji19) ≤ (t127.size : Int)
                    · rw [if_pos c21] at H
                      have c21b0 := eq_true c21
                      have c21b1 : decide ((ji19) ≤ (t127.size : Int)) = true := decide_eq_true c21
                      clear c21
                      have c22b0 := eq_true (of_decide_eq_true (by first | (with_reducible assumption) | assumption) : 0 ≤ (ji19))
                      by_cases c23 : (ji19) ≤ (t128.size : Int)
                      · rw [if_pos c23] at H
                        have c23b0 := eq_true c23
                        have c23b1 : decide ((ji19) ≤ (t128.size : Int)) = true := decide_eq_true c23
                        clear c23
                        obtain rfl := Option.some.inj H
                        all_goals (try (exfalso; have d1 := of_decide_eq_true c15b0; have d2 := of_decide_eq_true c17b0; omega))
                        all_goals go_wp2
                        all_goals (repeat (go_quiet (fail); try go_wp2))
                        all_goals go_ret
                        all_goals exact ⟨by first | rfl | (rw [pfx_a hji19_ (by omega)] <;> rfl) | (rw [pfx_b hji19_ (by omega)] <;> rfl) | (simp [errW_none, errW_some] <;> rfl) | (simp only [← hji19]; first | rfl | (simp [errW_none, errW_some] <;> rfl)) | (simp [*, errW_none, errW_some] <;> rfl), by repeat (first | (with_reducible first | exact HB.out | apply below_alloc | apply pw_below_drewN | apply below_drew1) | exact HB.out)⟩
                      · rw [if_neg c23] at H
                        exact absurd H (by simp)
                    · rw [if_neg c21] at H
                      exact absurd H (by simp)
                  · rw [if_neg c20] at H
                    exact absurd H (by simp)
              · rw [if_neg c17] at H
                have c17b0 : decide (a1 < a0) = false := decide_eq_false c17
                clear c17
                obtain ⟨ji24, hji24⟩ : ∃ j_ : Int, (mn (t127.size : Int) (t128.size : Int)) = j_ := ⟨_, rfl⟩
                replace H : (if 0 ≤ (ji24) then (if (ji24) ≤ (t127.size : Int) then (if (ji24) ≤ (t128.size : Int) then (some (((t127.extract 0 ((ji24) : Int).toNat).toList == (t128.extract 0 ((ji24) : Int).toNat).toList) == (a0 == a1))) else (none)) else (none)) else (none)) = some r := by first | (rw [hji24] at H; exact H) | (simp only [hji24] at H ⊢; exact H)
                have hji24_ : (if (t128.size : Int) < (t127.size : Int) then (t128.size : Int) else (t127.size : Int)) = ji24 := hji24
                by_cases c25 : 0 ≤ (ji24)
                · rw [if_pos c25] at H
                  have c25b0 := eq_true c25
                  have c25b1 : decide (0 ≤ (ji24)) = true := decide_eq_true c25
                  clear c25
                  by_cases c26 : (ji24) ≤ (t127.size : Int)
                  · rw [if_pos c26] at H
                    have c26b0 := eq_true c26
                    have c26b1 : decide ((ji24) ≤ (t127.size : Int)) = true := decide_eq_true c26
                    clear c26
                    have c27b0 := eq_true (of_decide_eq_true (by first | (with_reducible assumption) | assumption) : 0 ≤ (ji24))
                    by_cases c28 : (ji24) ≤ (t128.size : Int)
                    · rw [if_pos c28] at H
                      have c28b0 := eq_true c28
                      have c28b1 : decide ((ji24) ≤ (t128.size : Int)) = true := decide_eq_true c28
                      clear c28
                      obtain rfl := Option.some.inj H
                      all_goals (try (exfalso; have d1 := of_decide_eq_true c15b0; have d2 := of_decide_eq_true c17b0; omega))
                      all_goals go_wp2
                      all_goals (repeat (go_quiet (fail); try go_wp2))
                      all_goals go_ret
                      all_goals exact ⟨by first | rfl | (rw [pfx_a hji24_ (by omega)] <;> rfl) | (rw [pfx_b hji24_ (by omega)] <;> rfl) | (simp [errW_none, errW_some] <;> rfl) | (simp only [← hji24]; first | rfl | (simp [errW_none, errW_some] <;> rfl)) | (simp [*, errW_none, errW_some] <;> rfl), by repeat (first | (with_reducible first | exact HB.out | apply below_alloc | apply pw_below_drewN | apply below_drew1) | exact HB.out)⟩
                    · rw [if_neg c28] at H
                      exact absurd H (by simp)
                  · rw [if_neg c26] at H
                    exact absurd H (by simp)
                · rw [if_neg c25] at H
                  exact absurd H (by simp)
          · rw [if_neg c15] at H
            have c15b0 : decide (a0 < a1) = false := decide_eq_false c15
            clear c15
            by_cases c29 : a0 > a1
            · rw [if_pos c29] at H
              have c29b0 : decide (a1 < a0) = true := decide_eq_true c29
              clear c29
              by_cases c30 : (t127.size : Int) < (t128.size : Int)
              · rw [if_pos c30] at H
                have c30b0 : decide ((t127.size : Int) < (t128.size : Int)) = true := decide_eq_true c30
                have c30b1 : decide (t127.size < t128.size) = true := decide_eq_true (Int.ofNat_lt.mp c30)
                clear c30
                obtain rfl := Option.some.inj H
                all_goals (try (exfalso; have d1 := of_decide_eq_true c15b0; have d2 := of_decide_eq_true c17b0; omega))
                all_goals go_wp2
                all_goals (repeat (go_quiet (fail); try go_wp2))
                all_goals go_ret
                all_goals exact ⟨by first | rfl | (rw [pfx_a hji24_ (by omega)] <;> rfl) | (rw [pfx_b hji24_ (by omega)] <;> rfl) | (simp [errW_none, errW_some] <;> rfl) | (simp [*, errW_none, errW_some] <;> rfl), by repeat (first | (with_reducible first | exact HB.out | apply below_alloc | apply pw_below_drewN | apply below_drew1) | exact HB.out)⟩
              · rw [if_neg c30] at H
                have c30b0 : decide ((t127.size : Int) < (t128.size : Int)) = false := decide_eq_false c30
                have c30b1 : decide (t127.size < t128.size) = false := decide_eq_false (fun h => c30 (Int.ofNat_lt.mpr h))
                clear c30
                obtain ⟨ji31, hji31⟩ : ∃ j_ : Int, (mn (t127.size : Int) (t128.size : Int)) = j_ := ⟨_, rfl⟩
                replace H : (if 0 ≤ (ji31) then (if (ji31) ≤ (t127.size : Int) then (if (ji31) ≤ (t128.size : Int) then (some (((t127.extract 0 ((ji31) : Int).toNat).toList == (t128.extract 0 ((ji31) : Int).toNat).toList) == (a0 == a1))) else (none)) else (none)) else (none)) = some r := by first | (rw [hji31] at H; exact H) | (simp only [hji31] at H ⊢; exact H)
                have hji31_ : (if (t128.size : Int) < (t127.size : Int) then (t128.size : Int) else (t127.size : Int)) = ji31 := hji31
                by_cases c32 : 0 ≤ (ji31)
                · rw [if_pos c32] at H
                  have c32b0 := eq_true c32
                  have c32b1 : decide (0 ≤ (ji31)) = true := decide_eq_true c32
                  clear c32
                  by_cases c33 : (ji31) ≤ (t127.size : Int)
                  · rw [if_pos c33] at H
                    have c33b0 := eq_true c33
                    have c33b1 : decide ((ji31) ≤ (t127.size : Int)) = true := decide_eq_true c33
                    clear c33
                    have c34b0 := eq_true (of_decide_eq_true (by first | (with_reducible assumption) | assumption) : 0 ≤ (ji31))
                    by_cases c35 : (ji31) ≤ (t128.size : Int)
                    · rw [if_pos c35] at H
                      have c35b0 := eq_true c35
                      have c35b1 : decide ((ji31) ≤ (t128.size : Int)) = true := decide_eq_true c35
                      clear c35
                      obtain rfl := Option.some.inj H
                      all_goals (try (exfalso; have d1 := of_decide_eq_true c15b0; have d2 := of_decide_eq_true c17b0; omega))
                      all_goals go_wp2
                      all_goals (repeat (go_quiet (fail); try go_wp2))
                      all_goals go_ret
                      all_goals exact ⟨by first | rfl | (rw [pfx_a hji31_ (by omega)] <;> rfl) | (rw [pfx_b hji31_ (by omega)] <;> rfl) | (simp [errW_none, errW_some] <;> rfl) | (simp only [← hji31]; first | rfl | (simp [errW_none, errW_some] <;> rfl)) | (simp [*, errW_none, errW_some] <;> rfl), by repeat (first | (with_reducible first | exact HB.out | apply below_alloc | apply pw_below_drewN | apply below_drew1) | exact HB.out)⟩
                    · rw [if_neg c35] at H
                      exact absurd H (by simp)
                  · rw [if_neg c33] at H
                    exact absurd H (by simp)
                · rw [if_neg c32] at H
                  exact absurd H (by simp)
            · rw [if_neg c29] at H
              have c29b0 : decide (a1 < a0) = false := decide_eq_false c29
              clear c29
              obtain ⟨ji36, hji36⟩ : ∃ j_ : Int, (mn (t127.size : Int) (t128.size : Int)) = j_ := ⟨_, rfl⟩
              replace H : (if 0 ≤ (ji36) then (if (ji36) ≤ (t127.size : Int) then (if (ji36) ≤ (t128.size : Int) then (some (((t127.extract 0 ((ji36) : Int).toNat).toList == (t128.extract 0 ((ji36) : Int).toNat).toList) == (a0 == a1))) else (none)) else (none)) else (none)) = some r := by first | (rw [hji36] at H; exact H) | (simp only [hji36] at H ⊢; exact H)
              have hji36_ : (if (t128.size : Int) < (t127.size : Int) then (t128.size : Int) else (t127.size : Int)) = ji36 := hji36
              by_cases c37 : 0 ≤ (ji36)
              · rw [if_pos c37] at H
                have c37b0 := eq_true c37
                have c37b1 : decide (0 ≤ (ji36)) = true := decide_eq_true c37
                clear c37
                by_cases c38 : (ji36) ≤ (t127.size : Int)
                · rw [if_pos c38] at H
                  have c38b0 := eq_true c38
                  have c38b1 : decide ((ji36) ≤ (t127.size : Int)) = true := decide_eq_true c38
                  clear c38
                  have c39b0 := eq_true (of_decide_eq_true (by first | (with_reducible assumption) | assumption) : 0 ≤ (ji36))
                  by_cases c40 : (ji36) ≤ (t128.size : Int)
                  · rw [if_pos c40] at H
                    have c40b0 := eq_true c40
                    have c40b1 : decide ((ji36) ≤ (t128.size : Int)) = true := decide_eq_true c40
                    clear c40
                    obtain rfl := Option.some.inj H
                    all_goals (try (exfalso; have d1 := of_decide_eq_true c15b0; have d2 := of_decide_eq_true c17b0; omega))
                    all_goals go_wp2
                    all_goals (repeat (go_quiet (fail); try go_wp2))
                    all_goals go_ret
                    all_goals exact ⟨by first | rfl | (rw [pfx_a hji36_ (by omega)] <;> rfl) | (rw [pfx_b hji36_ (by omega)] <;> rfl) | (simp [errW_none, errW_some] <;> rfl) | (simp only [← hji36]; first | rfl | (simp [errW_none, errW_some] <;> rfl)) | (simp [*, errW_none, errW_some] <;> rfl), by repeat (first | (with_reducible first | exact HB.out | apply below_alloc | apply pw_below_drewN | apply below_drew1) | exact HB.out)⟩
                  · rw [if_neg c40] at H
                    exact absurd H (by simp)
                · rw [if_neg c38] at H
                  exact absurd H (by simp)
              · rw [if_neg c37] at H
                exact absurd H (by simp)
  · replace c4 := Bool.eq_false_iff.mpr c4
    subst c4
    have H1 : (some false) = some r := by rw [if_neg (show ¬ (false = true) by decide)] at H; exact H
    clear H
    have H := H1
    clear H1
    obtain rfl := Option.some.inj H
    go_enter Try.func4, Try.ntmps4
    go_wp2_with (first | (go_at_call 25; (with_reducible refine (dasdlaw01_awake.calls k  false _ A3.out).mono ?_); rintro e w41 ⟨rfl, hb⟩; have n0_ := Aside0.mk (below_step (by repeat (first | (with_reducible first | exact HB.out | apply below_alloc | apply pw_below_drewN | apply below_drew1) | exact HB.out)) hb); clear HB; have HB := n0_; clear n0_; (try clear hb); (try clear hb2); (try clear hk); (try clear hi)))
    repeat (go_quiet (first | (go_at_call 25; (with_reducible refine (dasdlaw01_awake.calls k  false _ A3.out).mono ?_); rintro e w41 ⟨rfl, hb⟩; have n0_ := Aside0.mk (below_step (by repeat (first | (with_reducible first | exact HB.out | apply below_alloc | apply pw_below_drewN | apply below_drew1) | exact HB.out)) hb); clear HB; have HB := n0_; clear n0_; (try clear hb); (try clear hb2); (try clear hk); (try clear hi))); try go_wp2_with (first | (go_at_call 25; (with_reducible refine (dasdlaw01_awake.calls k  false _ A3.out).mono ?_); rintro e w41 ⟨rfl, hb⟩; have n0_ := Aside0.mk (below_step (by repeat (first | (with_reducible first | exact HB.out | apply below_alloc | apply pw_below_drewN | apply below_drew1) | exact HB.out)) hb); clear HB; have HB := n0_; clear n0_; (try clear hb); (try clear hb2); (try clear hk); (try clear hi))))
    go_ret
    exact ⟨by first | rfl | (simp [errW_none, errW_some] <;> rfl) | (simp [*, errW_none, errW_some] <;> rfl), by repeat (first | (with_reducible first | exact HB.out | apply below_alloc | apply pw_below_drewN | apply below_drew1) | exact HB.out)⟩

/-- THE ONE PURE STATEMENT of dasdlaw01_WirePrefix: yours. -/
def dasdlaw01_WirePrefix.Pure : Prop := ∀ (a0 : Int) (a1 : Int), (Lit.int .u64 a0).wf = true → (Lit.int .u64 a1).wf = true → ∃ k, dasdlaw01_WirePrefix.f k a0 a1 = some true
theorem dasdlaw01_WirePrefix.walk (P : dasdlaw01_WirePrefix.Pure) (a0 : Int) (a1 : Int) (w : World) (w0 : (Lit.int .u64 a0).wf = true) (w1 : (Lit.int .u64 a1).wf = true) :
    Calls Try.prog 4 #[.int .u64 a0, .int .u64 a1] w fun e w' => e = .returned (.bool true) ∧ Below w.heap.size w w' := by
  obtain ⟨k, h⟩ := P a0 a1 w0 w1
  refine (dasdlaw01_WirePrefix.calls k a0 a1 true w h).mono ?_
  rintro e w' ⟨rfl, hd⟩
  exact ⟨rfl, hd⟩

end Go.Proofs.Ytegefemkmdlmaaa.P
