-- Printed by a program of this session (hand.py) out of the translation. Lean checks it.
import Derived.Test.YtegefemkmdlmaaaF0
import Derived.Test.YtegefemkmdlmaaaGe
import Derived.Test.YtegefemkmdlmaaaF44
import Derived.Test.YtegefemkmdlmaaaF46
import Derived.Test.YtegefemkmdlmaaaF48
import Derived.Test.YtegefemkmdlmaaaF58
namespace Go.Proofs.Ytegefemkmdlmaaa.P
open Go.RowKit Go.Proofs.YtegefemkmdlmaaaW.PrintWords Go.Proofs.YtegefemkmdlmaaaW.PrintLast Go.Proofs.YtegefemkmdlmaaaW.PrintMore
attribute [local go_sem] max2_int min2_int max_two min_two max_three min_three max_four min_four   -- for this text's walks alone
set_option linter.unusedVariables false
set_option linter.unusedSimpArgs false

/-! ### dasdlaw07_LabelStrict: function 10 -/
mutual
def dasdlaw07_LabelStrict.j0 : Nat → ByteArray → Int → Bool → Option (Bool)
  | 0, _, _, _ => none
  | k + 1, x0, x1, x16 => if x16 = true then ((dasdlaw07_awake.f k).bind fun t555 => (some t555)) else ((label_Decode.f k x0 x1).bind fun bt556 => (if bt556.2.2.2.2.2 = 0 then ((label_Encode.f k bt556.1 bt556.2.1 bt556.2.2.1 bt556.2.2.2.1 bt556.2.2.2.2.1 x1).bind fun t565 => (if t565.toList = x0.toList then (dasdlaw07_LabelStrict.j1 k x0 false) else (dasdlaw07_LabelStrict.j1 k x0 true))) else (if bt556.2.2.2.2.2 = 11 then ((label_Equal.f k bt556.1 bt556.2.1 bt556.2.2.1 bt556.2.2.2.1 bt556.2.2.2.2.1 0 0 (⟨#[]⟩ : ByteArray) (⟨#[]⟩ : ByteArray) ([] : List (S103))).bind fun t566 => (dasdlaw07_LabelStrict.j1 k x0 (!t566))) else (dasdlaw07_LabelStrict.j1 k x0 true))))
def dasdlaw07_LabelStrict.j1 : Nat → ByteArray → Bool → Option (Bool)
  | 0, _, _ => none
  | k + 1, x0, x46 => if x46 = true then (some false) else ((label_DecodeHead.f k x0).bind fun bt567 => (if bt567.2.2 = 0 then ((label_EncodeHead.f k bt567.1 bt567.2.1).bind fun t570 => (if t570.toList = x0.toList then ((label_ValidName.f k bt567.1).bind fun t571 => (if t571 = true then ((label_TableTracks.f bt567.2.1).bind fun t572 => (some (decide (t572 > 0)))) else (some false))) else (some false))) else (if bt567.2.2 = 11 then (if bt567.1.toList = ([] : List UInt8) then (some (bt567.2.1 == 0)) else (some false)) else (some false))))
end
def dasdlaw07_LabelStrict.f (k : Nat) (a0 : ByteArray) (a1 : Int) : Option (Bool) := (dasdlaw07_awake.f k).bind fun t554 => (if t554 = true then (dasdlaw07_LabelStrict.j0 k a0 a1 (decide ((a0.size : Int) > 1100))) else (dasdlaw07_LabelStrict.j0 k a0 a1 true))
theorem dasdlaw07_LabelStrict.mono_l : ∀ k, (∀ y0 y1 y2, LeO (dasdlaw07_LabelStrict.j0 k y0 y1 y2) (dasdlaw07_LabelStrict.j0 (k + 1) y0 y1 y2)) ∧ (∀ y0 y1, LeO (dasdlaw07_LabelStrict.j1 k y0 y1) (dasdlaw07_LabelStrict.j1 (k + 1) y0 y1))
  | 0 => ⟨fun _ _ _ r h => by simp [dasdlaw07_LabelStrict.j0] at h, fun _ _ r h => by simp [dasdlaw07_LabelStrict.j1] at h⟩
  | k + 1 => by
    obtain ⟨ih0, ih1⟩ := dasdlaw07_LabelStrict.mono_l k
    refine ⟨?_, ?_⟩
    · intro y0 y1 y2
      unfold dasdlaw07_LabelStrict.j0
      repeat' first
      | (with_reducible exact ih0 _ _ _)
      | (with_reducible exact ih1 _ _)
      | (with_reducible exact dasdlaw07_awake.mono _)
      | (with_reducible exact label_Decode.mono _ _ _)
      | (with_reducible exact label_DecodeHead.mono _ _)
      | (with_reducible exact label_Encode.mono _ _ _ _ _ _ _)
      | (with_reducible exact label_EncodeHead.mono _ _ _)
      | (with_reducible exact label_Equal.mono _ _ _ _ _ _ _ _ _ _ _)
      | (with_reducible exact label_ValidName.mono _ _)
      | (with_reducible exact LeO.refl _)
      | (with_reducible exact LeO.none _)
      | (with_reducible refine LeO.ite ?_ ?_)
      | (with_reducible refine LeO.bind ?_ (fun _ => ?_))
      | exact ih0 _ _ _
      | exact ih1 _ _
      | exact dasdlaw07_awake.mono _
      | exact label_Decode.mono _ _ _
      | exact label_DecodeHead.mono _ _
      | exact label_Encode.mono _ _ _ _ _ _ _
      | exact label_EncodeHead.mono _ _ _
      | exact label_Equal.mono _ _ _ _ _ _ _ _ _ _ _
      | exact label_ValidName.mono _ _
      | exact LeO.none _
      | refine LeO.ite ?_ ?_
      | refine LeO.bind ?_ (fun _ => ?_)
    · intro y0 y1
      unfold dasdlaw07_LabelStrict.j1
      repeat' first
      | (with_reducible exact ih0 _ _ _)
      | (with_reducible exact ih1 _ _)
      | (with_reducible exact dasdlaw07_awake.mono _)
      | (with_reducible exact label_Decode.mono _ _ _)
      | (with_reducible exact label_DecodeHead.mono _ _)
      | (with_reducible exact label_Encode.mono _ _ _ _ _ _ _)
      | (with_reducible exact label_EncodeHead.mono _ _ _)
      | (with_reducible exact label_Equal.mono _ _ _ _ _ _ _ _ _ _ _)
      | (with_reducible exact label_ValidName.mono _ _)
      | (with_reducible exact LeO.refl _)
      | (with_reducible exact LeO.none _)
      | (with_reducible refine LeO.ite ?_ ?_)
      | (with_reducible refine LeO.bind ?_ (fun _ => ?_))
      | exact ih0 _ _ _
      | exact ih1 _ _
      | exact dasdlaw07_awake.mono _
      | exact label_Decode.mono _ _ _
      | exact label_DecodeHead.mono _ _
      | exact label_Encode.mono _ _ _ _ _ _ _
      | exact label_EncodeHead.mono _ _ _
      | exact label_Equal.mono _ _ _ _ _ _ _ _ _ _ _
      | exact label_ValidName.mono _ _
      | exact LeO.none _
      | refine LeO.ite ?_ ?_
      | refine LeO.bind ?_ (fun _ => ?_)
theorem dasdlaw07_LabelStrict.mono : ∀ a0 a1 k, LeO (dasdlaw07_LabelStrict.f k a0 a1) (dasdlaw07_LabelStrict.f (k + 1) a0 a1) := by
  intro a0 a1 k
  obtain ⟨ih0, ih1⟩ := dasdlaw07_LabelStrict.mono_l k
  unfold dasdlaw07_LabelStrict.f
  repeat' first
      | (with_reducible exact ih0 _ _ _)
      | (with_reducible exact ih1 _ _)
      | (with_reducible exact dasdlaw07_awake.mono _)
      | (with_reducible exact label_Decode.mono _ _ _)
      | (with_reducible exact label_DecodeHead.mono _ _)
      | (with_reducible exact label_Encode.mono _ _ _ _ _ _ _)
      | (with_reducible exact label_EncodeHead.mono _ _ _)
      | (with_reducible exact label_Equal.mono _ _ _ _ _ _ _ _ _ _ _)
      | (with_reducible exact label_ValidName.mono _ _)
      | (with_reducible exact LeO.refl _)
      | (with_reducible exact LeO.none _)
      | (with_reducible refine LeO.ite ?_ ?_)
      | (with_reducible refine LeO.bind ?_ (fun _ => ?_))
      | exact ih0 _ _ _
      | exact ih1 _ _
      | exact dasdlaw07_awake.mono _
      | exact label_Decode.mono _ _ _
      | exact label_DecodeHead.mono _ _
      | exact label_Encode.mono _ _ _ _ _ _ _
      | exact label_EncodeHead.mono _ _ _
      | exact label_Equal.mono _ _ _ _ _ _ _ _ _ _ _
      | exact label_ValidName.mono _ _
      | exact LeO.none _
      | refine LeO.ite ?_ ?_
      | refine LeO.bind ?_ (fun _ => ?_)
set_option maxHeartbeats 8000000 in
set_option maxRecDepth 100000 in
theorem dasdlaw07_LabelStrict.calls (k : Nat) (a0 : ByteArray) (a1 : Int) (r : Bool) (w : World) (h : dasdlaw07_LabelStrict.f k a0 a1 = some r) :
    Calls Try.prog 10 #[.string a0, .int .i64 a1] w fun e w' => e = .returned (.bool r) ∧ Below w.heap.size w w' := by
  have hu55 := Try.underlying55
  have HB := Aside0.mk (Below.refl w.heap.size w)
  have H : ((dasdlaw07_awake.f k).bind fun t554 => (if t554 = true then (dasdlaw07_LabelStrict.j0 k a0 a1 (decide ((a0.size : Int) > 1100))) else (dasdlaw07_LabelStrict.j0 k a0 a1 true))) = some r := h
  clear h
  have HC3 := Aside0.mk H
  clear H
  go_enter Try.func10, Try.ntmps10
  go_upto_region 1 with (fail)
  go_cut [16] (fun v16 wc => ∃ (kq : Nat) (x16_2 : Bool), v16 = .bool x16_2 ∧ Aside0 (dasdlaw07_LabelStrict.j0 kq a0 a1 x16_2 = some r) ∧ Aside0 (kq ≤ k) ∧ Aside0 (Below w.heap.size w wc))
  case first =>
    have H := HC3.out
    clear HC3
    replace H := Option.bind_eq_some_iff.mp H
    obtain ⟨t554, A40, H⟩ := H
    replace H : (if t554 = true then (dasdlaw07_LabelStrict.j0 k a0 a1 (decide ((a0.size : Int) > 1100))) else (dasdlaw07_LabelStrict.j0 k a0 a1 true)) = some r := H
    have A4 := Aside0.mk A40
    clear A40
    by_cases c5 : t554 = true
    · subst c5
      have H1 : (dasdlaw07_LabelStrict.j0 k a0 a1 (decide ((a0.size : Int) > 1100))) = some r := by rw [if_pos rfl] at H; exact H
      clear H
      have H := H1
      clear H1
      have H' := Aside0.mk H
      clear H
      go_wp2_with (first | ((with_reducible refine gate_callee (f := 43) rfl ?_); refine goesL_ (some 10) rfl rfl Try.func43 (by kernel_rfl) rfl #[] rfl (by (try simp only [List.map_toArray, List.map_cons, List.map_nil]); first | done | rfl | (simp only [List.length_drop, List.length_take]; rfl)) ?_; (with_reducible refine (dasdlaw07_awake.calls k  true _ A4.out).mono ?_); rintro e w6 ⟨rfl, hb⟩; refine ⟨_, rfl, ?_⟩; have n0_ := Aside0.mk (below_step (by repeat (first | (with_reducible first | exact HB.out | apply below_alloc | apply pw_below_drewN | apply below_drew1) | exact HB.out)) hb); clear HB; have HB := n0_; clear n0_; (try clear hb); (try clear hb2); (try clear hk); (try clear hi)))
      go_meet
      case rel => exact ⟨_, (decide ((a0.size : Int) > 1100)), (by first | rfl | (simp; done) | (simp [*]; done)), H', ⟨by first | omega | exact Nat.le_refl _⟩, ⟨by repeat (first | (with_reducible first | exact HB.out | apply below_alloc | apply pw_below_drewN | apply below_drew1) | exact HB.out)⟩⟩
    · replace c5 := Bool.eq_false_iff.mpr c5
      subst c5
      have H1 : (dasdlaw07_LabelStrict.j0 k a0 a1 true) = some r := by rw [if_neg (show ¬ (false = true) by decide)] at H; exact H
      clear H
      have H := H1
      clear H1
      have H' := Aside0.mk H
      clear H
      go_wp2_with (first | ((with_reducible refine gate_callee (f := 43) rfl ?_); refine goesL_ (some 10) rfl rfl Try.func43 (by kernel_rfl) rfl #[] rfl (by (try simp only [List.map_toArray, List.map_cons, List.map_nil]); first | done | rfl | (simp only [List.length_drop, List.length_take]; rfl)) ?_; (with_reducible refine (dasdlaw07_awake.calls k  false _ A4.out).mono ?_); rintro e w7 ⟨rfl, hb⟩; refine ⟨_, rfl, ?_⟩; have n0_ := Aside0.mk (below_step (by repeat (first | (with_reducible first | exact HB.out | apply below_alloc | apply pw_below_drewN | apply below_drew1) | exact HB.out)) hb); clear HB; have HB := n0_; clear n0_; (try clear hb); (try clear hb2); (try clear hk); (try clear hi)))
      go_meet
      case rel => exact ⟨_, (true), (by first | rfl | (simp; done) | (simp [*]; done)), H', ⟨by first | omega | exact Nat.le_refl _⟩, ⟨by repeat (first | (with_reducible first | exact HB.out | apply below_alloc | apply pw_below_drewN | apply below_drew1) | exact HB.out)⟩⟩
  case rest =>
    clear HC3
    try clear c1
    try clear p2
    try clear c4
    try clear c5
    obtain ⟨kq, x16_2, rfl, HA, HJ2, HB⟩ := hcut
    cases kq with
    | zero => exact absurd HA.out (by simp [dasdlaw07_LabelStrict.j0])
    | succ kj2 =>
      have H := HA.out
      clear HA
      simp only [dasdlaw07_LabelStrict.j0] at H
      by_cases c8 : x16_2 = true
      · subst c8
        have H1 : ((dasdlaw07_awake.f kj2).bind fun t555 => (some t555)) = some r := by rw [if_pos rfl] at H; exact H
        clear H
        have H := H1
        clear H1
        replace H := Option.bind_eq_some_iff.mp H
        obtain ⟨t555, A90, H⟩ := H
        replace H : (some t555) = some r := H
        have A9 := Aside0.mk A90
        clear A90
        obtain rfl := Option.some.inj H
        go_wp2_with (first | ((with_reducible refine gate_callee (f := 43) rfl ?_); refine goesL_ (some 17) rfl rfl Try.func43 (by kernel_rfl) rfl #[] rfl (by (try simp only [List.map_toArray, List.map_cons, List.map_nil]); first | done | rfl | (simp only [List.length_drop, List.length_take]; rfl)) ?_; (with_reducible refine (dasdlaw07_awake.calls kj2  t555 _ A9.out).mono ?_); rintro e w10 ⟨rfl, hb⟩; refine ⟨_, rfl, ?_⟩; have n0_ := Aside0.mk (below_step (by repeat (first | (with_reducible first | exact HB.out | apply below_alloc | apply pw_below_drewN | apply below_drew1) | exact HB.out)) hb); clear HB; have HB := n0_; clear n0_; (try clear hb); (try clear hb2); (try clear hk); (try clear hi)))
        go_ret
        exact ⟨by first | rfl | (simp [errW_none, errW_some] <;> rfl) | (simp [*, errW_none, errW_some] <;> rfl), by repeat (first | (with_reducible first | exact HB.out | apply below_alloc | apply pw_below_drewN | apply below_drew1) | exact HB.out)⟩
      · replace c8 := Bool.eq_false_iff.mpr c8
        subst c8
        have H1 : ((label_Decode.f kj2 a0 a1).bind fun bt556 => (if bt556.2.2.2.2.2 = 0 then ((label_Encode.f kj2 bt556.1 bt556.2.1 bt556.2.2.1 bt556.2.2.2.1 bt556.2.2.2.2.1 a1).bind fun t565 => (if t565.toList = a0.toList then (dasdlaw07_LabelStrict.j1 kj2 a0 false) else (dasdlaw07_LabelStrict.j1 kj2 a0 true))) else (if bt556.2.2.2.2.2 = 11 then ((label_Equal.f kj2 bt556.1 bt556.2.1 bt556.2.2.1 bt556.2.2.2.1 bt556.2.2.2.2.1 0 0 (⟨#[]⟩ : ByteArray) (⟨#[]⟩ : ByteArray) ([] : List (S103))).bind fun t566 => (dasdlaw07_LabelStrict.j1 kj2 a0 (!t566))) else (dasdlaw07_LabelStrict.j1 kj2 a0 true)))) = some r := by rw [if_neg (show ¬ (false = true) by decide)] at H; exact H
        clear H
        have H := H1
        clear H1
        replace H := Option.bind_eq_some_iff.mp H
        obtain ⟨⟨t556, t557, t558, t559, t560, t563⟩, A110, H⟩ := H
        replace H : (if t563 = 0 then ((label_Encode.f kj2 t556 t557 t558 t559 t560 a1).bind fun t565 => (if t565.toList = a0.toList then (dasdlaw07_LabelStrict.j1 kj2 a0 false) else (dasdlaw07_LabelStrict.j1 kj2 a0 true))) else (if t563 = 11 then ((label_Equal.f kj2 t556 t557 t558 t559 t560 0 0 (⟨#[]⟩ : ByteArray) (⟨#[]⟩ : ByteArray) ([] : List (S103))).bind fun t566 => (dasdlaw07_LabelStrict.j1 kj2 a0 (!t566))) else (dasdlaw07_LabelStrict.j1 kj2 a0 true))) = some r := H
        have A11 := Aside0.mk A110
        clear A110
        have HC12 := Aside0.mk H
        clear H
        go_upto_region 4 with (first | ((with_reducible refine gate_callee (f := 58) rfl ?_); refine goesL_ (some 21) rfl rfl Try.func58 (by kernel_rfl) rfl #[.string a0, .int .i64 a1] rfl (by (try simp only [List.map_toArray, List.map_cons, List.map_nil]); first | done | rfl | (simp only [List.length_drop, List.length_take]; rfl)) ?_; (with_reducible refine (label_Decode.calls kj2 a0 a1 t556 t557 t558 t559 t560 t563 _ A11.out).mono ?_); rintro e w13 ⟨v561, rfl, ho0, hb⟩; refine ⟨_, rfl, ?_⟩; have n0_ := Aside0.mk (Kd.R_lower ho0 (below_size (by repeat (first | (with_reducible first | exact HB.out | apply below_alloc | apply pw_below_drewN | apply below_drew1) | exact HB.out)))); have n1_ := Aside0.mk (below_step (by repeat (first | (with_reducible first | exact HB.out | apply below_alloc | apply pw_below_drewN | apply below_drew1) | exact HB.out)) hb); clear HB; have HO562 := n0_; have HB := n1_; clear n0_ n1_; (try clear hb); (try clear hb2); (try clear hk); (try clear hi); (try clear ho0)) | ((with_reducible refine gate_dst (N := 5) rfl ?_); (try (refine gate_guard (by rfl) ?_; dsimp only)); refine box_event ?hg (N := 5) ?hd (cs := #[.int .i64 0, .int .i64 0, .string (⟨#[]⟩ : ByteArray), .string (⟨#[]⟩ : ByteArray), .slice none 0 0]) (t := 55) ?hr ?_; (case hd => rfl); (case hg => rfl); (case hr => first | (go_simp; done) | (go_simp; rfl)); intro gb564 hg w14 hbox hb; have n0_ := Aside0.mk (Kd.R_below (by (with_reducible repeat (first | apply Kd.R_alloc | apply Kd.R_drewN | apply Kd.R_drew)); exact HO562.out) hb); have n1_ := Aside0.mk (below_step (by repeat (first | (with_reducible first | exact HB.out | apply below_alloc | apply pw_below_drewN | apply below_drew1) | exact HB.out)) hb); have n2_ := Aside0.mk (hbox); have n3_ := Aside0.mk ((by rw [hg]; exact (below_size (by repeat (first | (with_reducible first | exact HB.out | apply below_alloc | apply pw_below_drewN | apply below_drew1) | exact HB.out))) : w.heap.size ≤ gb564)); have n4_ := Aside0.mk ((by rw [hg]; exact (below_size (by repeat (first | (with_reducible first | exact HB.out | apply below_alloc | apply pw_below_drewN | apply below_drew1) | exact HB.out))) : w.heap.size ≤ gb564)); clear HO562; clear HB; have HO562 := n0_; have HB := n1_; have BK564 := n2_; have GW564 := n3_; have GE564 := n4_; clear n0_ n1_ n2_ n3_ n4_; clear hb hbox hg; have hcz15_0 : w14.cell? ⟨gb564, 0, none⟩ = some (.int .i64 0) := (blk_cell BK564.out 0).trans rfl; have hcz15_1 : w14.cell? ⟨gb564, 1, none⟩ = some (.int .i64 0) := (blk_cell BK564.out 1).trans rfl; have hcz15_2 : w14.cell? ⟨gb564, 2, none⟩ = some (.string (⟨#[]⟩ : ByteArray)) := (blk_cell BK564.out 2).trans rfl; have hcz15_3 : w14.cell? ⟨gb564, 3, none⟩ = some (.string (⟨#[]⟩ : ByteArray)) := (blk_cell BK564.out 3).trans rfl; have hcz15_4 : w14.cell? ⟨gb564, 4, none⟩ = some (.slice none 0 0) := (blk_cell BK564.out 4).trans rfl; have hfz15_0 := blk_frozen BK564.out 0; have hfz15_1 := blk_frozen BK564.out 1; have hfz15_2 := blk_frozen BK564.out 2; have hfz15_3 := blk_frozen BK564.out 3; have hfz15_4 := blk_frozen BK564.out 4; obtain ⟨Ao16, co16, eo16⟩ := Kd.R_slice HO562.out; subst eo16))
        (try simp only [Act.put, List.setIfInBounds_toArray, List.set_cons_zero, List.set_cons_succ])
        go_cut [46] (fun v46 wc => ∃ (kq : Nat) (x46_11 : Bool), v46 = .bool x46_11 ∧ Aside0 (dasdlaw07_LabelStrict.j1 kq a0 x46_11 = some r) ∧ Aside0 (kq ≤ kj2) ∧ Aside0 (Kd.R k103 103 wc w.heap.size (fun _ => True) (.slice Ao16 t560.length co16) t560) ∧ Aside0 (wc.heap[gb564]? = some (.cells #[.int .i64 t556, .int .i64 t557, .string t558, .string t559, (.slice Ao16 t560.length co16)] 55 (0, 0))) ∧ Aside0 (Below w.heap.size w wc))
        case first =>
          have H := HC12.out
          clear HC12
          by_cases c17 : t563 = 0
          · rw [if_pos c17] at H
            have c17b0 : (t563 == 0) = true := beq_iff_eq.mpr c17
            have c17b1 : (t563 != 0) = false := bne_eq_false_iff_eq.mpr c17
            clear c17
            (first | rw [c17b0] | (simp only [i64_w, i32_w]; rw [c17b0]) | skip)
            replace H := Option.bind_eq_some_iff.mp H
            obtain ⟨t565, A180, H⟩ := H
            replace H : (if t565.toList = a0.toList then (dasdlaw07_LabelStrict.j1 kj2 a0 false) else (dasdlaw07_LabelStrict.j1 kj2 a0 true)) = some r := H
            have A18 := Aside0.mk A180
            clear A180
            by_cases c19 : t565.toList = a0.toList
            · rw [if_pos c19] at H
              have c19b0 : (t565.toList == a0.toList) = true := beq_iff_eq.mpr c19
              have c19b1 : (t565.toList != a0.toList) = false := bne_eq_false_iff_eq.mpr c19
              clear c19
              have H' := Aside0.mk H
              clear H
              have hcz20_0 : w14.cell? ⟨gb564, 0, none⟩ = some (.int .i64 0) := (blk_cell BK564.out 0).trans rfl
              have hcz20_1 : w14.cell? ⟨gb564, 1, none⟩ = some (.int .i64 0) := (blk_cell BK564.out 1).trans rfl
              have hcz20_2 : w14.cell? ⟨gb564, 2, none⟩ = some (.string (⟨#[]⟩ : ByteArray)) := (blk_cell BK564.out 2).trans rfl
              have hcz20_3 : w14.cell? ⟨gb564, 3, none⟩ = some (.string (⟨#[]⟩ : ByteArray)) := (blk_cell BK564.out 3).trans rfl
              have hcz20_4 : w14.cell? ⟨gb564, 4, none⟩ = some (.slice none 0 0) := (blk_cell BK564.out 4).trans rfl
              have hfz20_0 := blk_frozen BK564.out 0
              have hfz20_1 := blk_frozen BK564.out 1
              have hfz20_2 := blk_frozen BK564.out 2
              have hfz20_3 := blk_frozen BK564.out 3
              have hfz20_4 := blk_frozen BK564.out 4
              go_wp2_with (first | (go_at_call 59; (with_reducible refine (label_Encode.calls kj2 t556 t557 t558 t559 _ _ t560 a1 t565 _ ?side1 ?side2 A18.out).mono ?_); (case side1 => refine (Kd.R_reads' (e := 103) (base := w.heap.size) (ok := fun k_ => True) (n := t560.length) (c := co16) ?_).2.2; exact (by (with_reducible repeat (first | apply Kd.R_alloc | apply Kd.R_drewN | apply Kd.R_drew)); exact (Kd.R_mono (Kd.R_far (p := ⟨gb564, 4, none⟩) (Kd.R_far (p := ⟨gb564, 3, none⟩) (Kd.R_far (p := ⟨gb564, 2, none⟩) (Kd.R_far (p := ⟨gb564, 1, none⟩) (Kd.R_far (p := ⟨gb564, 0, none⟩) (Kd.R_types HO562.out BK564.out (by decide)) (fun _ hk => hk.2) (.int .i64 t556)) (fun _ hk => hk.2) (.int .i64 t557)) (fun _ hk => hk.2) (.string t558)) (fun _ hk => hk.2) (.string t559)) (fun _ hk => hk.2) (.slice Ao16 t560.length co16)) (fun _ h_ => h_.1)))); (case side2 => exact (Kd.R_reads' HO562.out).2.1); rintro e w21 ⟨rfl, hb⟩; have n0_ := Aside0.mk (Kd.R_below (by (with_reducible repeat (first | apply Kd.R_alloc | apply Kd.R_drewN | apply Kd.R_drew)); exact (Kd.R_mono (Kd.R_far (p := ⟨gb564, 4, none⟩) (Kd.R_far (p := ⟨gb564, 3, none⟩) (Kd.R_far (p := ⟨gb564, 2, none⟩) (Kd.R_far (p := ⟨gb564, 1, none⟩) (Kd.R_far (p := ⟨gb564, 0, none⟩) (Kd.R_types HO562.out BK564.out (by decide)) (fun _ hk => hk.2) (.int .i64 t556)) (fun _ hk => hk.2) (.int .i64 t557)) (fun _ hk => hk.2) (.string t558)) (fun _ hk => hk.2) (.string t559)) (fun _ hk => hk.2) (.slice Ao16 t560.length co16)) (fun _ h_ => h_.1))) hb); have n1_ := Aside0.mk (blk_below (g := gb564) (o := .cells #[.int .i64 t556, .int .i64 t557, .string t558, .string t559, .slice Ao16 t560.length co16] 55 (0, 0)) (by (with_reducible repeat (first | refine blk_drewN ?_ _ | refine blk_drew ?_ | refine blk_alloc ?_ _)); refine blk_put (cs := #[.int .i64 t556, .int .i64 t557, .string t558, .string t559, .slice none 0 0]) ?_ 4 _ rfl; (with_reducible repeat (first | refine blk_drewN ?_ _ | refine blk_drew ?_ | refine blk_alloc ?_ _)); refine blk_put (cs := #[.int .i64 t556, .int .i64 t557, .string t558, .string (⟨#[]⟩ : ByteArray), .slice none 0 0]) ?_ 3 _ rfl; (with_reducible repeat (first | refine blk_drewN ?_ _ | refine blk_drew ?_ | refine blk_alloc ?_ _)); refine blk_put (cs := #[.int .i64 t556, .int .i64 t557, .string (⟨#[]⟩ : ByteArray), .string (⟨#[]⟩ : ByteArray), .slice none 0 0]) ?_ 2 _ rfl; (with_reducible repeat (first | refine blk_drewN ?_ _ | refine blk_drew ?_ | refine blk_alloc ?_ _)); refine blk_put (cs := #[.int .i64 t556, .int .i64 0, .string (⟨#[]⟩ : ByteArray), .string (⟨#[]⟩ : ByteArray), .slice none 0 0]) ?_ 1 _ rfl; (with_reducible repeat (first | refine blk_drewN ?_ _ | refine blk_drew ?_ | refine blk_alloc ?_ _)); refine blk_put (cs := #[.int .i64 0, .int .i64 0, .string (⟨#[]⟩ : ByteArray), .string (⟨#[]⟩ : ByteArray), .slice none 0 0]) ?_ 0 _ rfl; (with_reducible repeat (first | refine blk_drewN ?_ _ | refine blk_drew ?_ | refine blk_alloc ?_ _)); exact BK564.out) hb); have n2_ := Aside0.mk (below_step (by repeat (first | (with_reducible first | exact HB.out | apply below_alloc | apply pw_below_drewN | apply below_drew1 | refine below_set ?_ GE564.out) | exact HB.out)) hb); clear HO562; clear BK564; clear HB; have HO562 := n0_; have BK564 := n1_; have HB := n2_; clear n0_ n1_ n2_; (try clear hb); (try clear hb2); (try clear hk); (try clear hi)))
              go_meet
              case rel => exact ⟨_, (false), (by first | rfl | (simp; done) | (simp [*]; done)), H', ⟨by have := HJ2.out; first | omega | exact Nat.le_refl _⟩, ⟨by (with_reducible repeat (first | apply Kd.R_alloc | apply Kd.R_drewN | apply Kd.R_drew)); exact HO562.out⟩, ⟨by (with_reducible repeat (first | refine blk_drewN ?_ _ | refine blk_drew ?_ | refine blk_alloc ?_ _)); exact BK564.out⟩, ⟨by repeat (first | (with_reducible first | exact HB.out | apply below_alloc | apply pw_below_drewN | apply below_drew1 | refine below_set ?_ GE564.out) | exact HB.out)⟩⟩
            · rw [if_neg c19] at H
              have c19b0 : (t565.toList == a0.toList) = false := beq_eq_false_iff_ne.mpr c19
              have c19b1 : (t565.toList != a0.toList) = true := bne_iff_ne.mpr c19
              have H' := Aside0.mk H
              clear H
              have hcz22_0 : w14.cell? ⟨gb564, 0, none⟩ = some (.int .i64 0) := (blk_cell BK564.out 0).trans rfl
              have hcz22_1 : w14.cell? ⟨gb564, 1, none⟩ = some (.int .i64 0) := (blk_cell BK564.out 1).trans rfl
              have hcz22_2 : w14.cell? ⟨gb564, 2, none⟩ = some (.string (⟨#[]⟩ : ByteArray)) := (blk_cell BK564.out 2).trans rfl
              have hcz22_3 : w14.cell? ⟨gb564, 3, none⟩ = some (.string (⟨#[]⟩ : ByteArray)) := (blk_cell BK564.out 3).trans rfl
              have hcz22_4 : w14.cell? ⟨gb564, 4, none⟩ = some (.slice none 0 0) := (blk_cell BK564.out 4).trans rfl
              have hfz22_0 := blk_frozen BK564.out 0
              have hfz22_1 := blk_frozen BK564.out 1
              have hfz22_2 := blk_frozen BK564.out 2
              have hfz22_3 := blk_frozen BK564.out 3
              have hfz22_4 := blk_frozen BK564.out 4
              go_wp2_with (first | (go_at_call 59; (with_reducible refine (label_Encode.calls kj2 t556 t557 t558 t559 _ _ t560 a1 t565 _ ?side1 ?side2 A18.out).mono ?_); (case side1 => refine (Kd.R_reads' (e := 103) (base := w.heap.size) (ok := fun k_ => True) (n := t560.length) (c := co16) ?_).2.2; exact (by (with_reducible repeat (first | apply Kd.R_alloc | apply Kd.R_drewN | apply Kd.R_drew)); exact (Kd.R_mono (Kd.R_far (p := ⟨gb564, 4, none⟩) (Kd.R_far (p := ⟨gb564, 3, none⟩) (Kd.R_far (p := ⟨gb564, 2, none⟩) (Kd.R_far (p := ⟨gb564, 1, none⟩) (Kd.R_far (p := ⟨gb564, 0, none⟩) (Kd.R_types HO562.out BK564.out (by decide)) (fun _ hk => hk.2) (.int .i64 t556)) (fun _ hk => hk.2) (.int .i64 t557)) (fun _ hk => hk.2) (.string t558)) (fun _ hk => hk.2) (.string t559)) (fun _ hk => hk.2) (.slice Ao16 t560.length co16)) (fun _ h_ => h_.1)))); (case side2 => exact (Kd.R_reads' HO562.out).2.1); rintro e w23 ⟨rfl, hb⟩; have n0_ := Aside0.mk (Kd.R_below (by (with_reducible repeat (first | apply Kd.R_alloc | apply Kd.R_drewN | apply Kd.R_drew)); exact (Kd.R_mono (Kd.R_far (p := ⟨gb564, 4, none⟩) (Kd.R_far (p := ⟨gb564, 3, none⟩) (Kd.R_far (p := ⟨gb564, 2, none⟩) (Kd.R_far (p := ⟨gb564, 1, none⟩) (Kd.R_far (p := ⟨gb564, 0, none⟩) (Kd.R_types HO562.out BK564.out (by decide)) (fun _ hk => hk.2) (.int .i64 t556)) (fun _ hk => hk.2) (.int .i64 t557)) (fun _ hk => hk.2) (.string t558)) (fun _ hk => hk.2) (.string t559)) (fun _ hk => hk.2) (.slice Ao16 t560.length co16)) (fun _ h_ => h_.1))) hb); have n1_ := Aside0.mk (blk_below (g := gb564) (o := .cells #[.int .i64 t556, .int .i64 t557, .string t558, .string t559, .slice Ao16 t560.length co16] 55 (0, 0)) (by (with_reducible repeat (first | refine blk_drewN ?_ _ | refine blk_drew ?_ | refine blk_alloc ?_ _)); refine blk_put (cs := #[.int .i64 t556, .int .i64 t557, .string t558, .string t559, .slice none 0 0]) ?_ 4 _ rfl; (with_reducible repeat (first | refine blk_drewN ?_ _ | refine blk_drew ?_ | refine blk_alloc ?_ _)); refine blk_put (cs := #[.int .i64 t556, .int .i64 t557, .string t558, .string (⟨#[]⟩ : ByteArray), .slice none 0 0]) ?_ 3 _ rfl; (with_reducible repeat (first | refine blk_drewN ?_ _ | refine blk_drew ?_ | refine blk_alloc ?_ _)); refine blk_put (cs := #[.int .i64 t556, .int .i64 t557, .string (⟨#[]⟩ : ByteArray), .string (⟨#[]⟩ : ByteArray), .slice none 0 0]) ?_ 2 _ rfl; (with_reducible repeat (first | refine blk_drewN ?_ _ | refine blk_drew ?_ | refine blk_alloc ?_ _)); refine blk_put (cs := #[.int .i64 t556, .int .i64 0, .string (⟨#[]⟩ : ByteArray), .string (⟨#[]⟩ : ByteArray), .slice none 0 0]) ?_ 1 _ rfl; (with_reducible repeat (first | refine blk_drewN ?_ _ | refine blk_drew ?_ | refine blk_alloc ?_ _)); refine blk_put (cs := #[.int .i64 0, .int .i64 0, .string (⟨#[]⟩ : ByteArray), .string (⟨#[]⟩ : ByteArray), .slice none 0 0]) ?_ 0 _ rfl; (with_reducible repeat (first | refine blk_drewN ?_ _ | refine blk_drew ?_ | refine blk_alloc ?_ _)); exact BK564.out) hb); have n2_ := Aside0.mk (below_step (by repeat (first | (with_reducible first | exact HB.out | apply below_alloc | apply pw_below_drewN | apply below_drew1 | refine below_set ?_ GE564.out) | exact HB.out)) hb); clear HO562; clear BK564; clear HB; have HO562 := n0_; have BK564 := n1_; have HB := n2_; clear n0_ n1_ n2_; (try clear hb); (try clear hb2); (try clear hk); (try clear hi)))
              go_meet
              case rel => exact ⟨_, (true), (by first | rfl | (simp; done) | (simp [*]; done)), H', ⟨by have := HJ2.out; first | omega | exact Nat.le_refl _⟩, ⟨by (with_reducible repeat (first | apply Kd.R_alloc | apply Kd.R_drewN | apply Kd.R_drew)); exact HO562.out⟩, ⟨by (with_reducible repeat (first | refine blk_drewN ?_ _ | refine blk_drew ?_ | refine blk_alloc ?_ _)); exact BK564.out⟩, ⟨by repeat (first | (with_reducible first | exact HB.out | apply below_alloc | apply pw_below_drewN | apply below_drew1 | refine below_set ?_ GE564.out) | exact HB.out)⟩⟩
          · rw [if_neg c17] at H
            have c17b0 : (t563 == 0) = false := beq_eq_false_iff_ne.mpr c17
            have c17b1 : (t563 != 0) = true := bne_iff_ne.mpr c17
            (first | rw [c17b0] | (simp only [i64_w, i32_w]; rw [c17b0]) | skip)
            by_cases c24 : t563 = 11
            · rw [if_pos c24] at H
              have c24b0 : (t563 == 11) = true := beq_iff_eq.mpr c24
              have c24b1 : (t563 != 11) = false := bne_eq_false_iff_eq.mpr c24
              clear c24
              replace H := Option.bind_eq_some_iff.mp H
              obtain ⟨t566, A250, H⟩ := H
              replace H : (dasdlaw07_LabelStrict.j1 kj2 a0 (!t566)) = some r := H
              have A25 := Aside0.mk A250
              clear A250
              have H' := Aside0.mk H
              clear H
              have hcz26_0 : w14.cell? ⟨gb564, 0, none⟩ = some (.int .i64 0) := (blk_cell BK564.out 0).trans rfl
              have hcz26_1 : w14.cell? ⟨gb564, 1, none⟩ = some (.int .i64 0) := (blk_cell BK564.out 1).trans rfl
              have hcz26_2 : w14.cell? ⟨gb564, 2, none⟩ = some (.string (⟨#[]⟩ : ByteArray)) := (blk_cell BK564.out 2).trans rfl
              have hcz26_3 : w14.cell? ⟨gb564, 3, none⟩ = some (.string (⟨#[]⟩ : ByteArray)) := (blk_cell BK564.out 3).trans rfl
              have hcz26_4 : w14.cell? ⟨gb564, 4, none⟩ = some (.slice none 0 0) := (blk_cell BK564.out 4).trans rfl
              have hfz26_0 := blk_frozen BK564.out 0
              have hfz26_1 := blk_frozen BK564.out 1
              have hfz26_2 := blk_frozen BK564.out 2
              have hfz26_3 := blk_frozen BK564.out 3
              have hfz26_4 := blk_frozen BK564.out 4
              go_wp2_with (first | (go_at_call 60; (refine (label_Equal.calls kj2 t556 t557 t558 t559 _ _ t560 0 0 (⟨#[]⟩ : ByteArray) (⟨#[]⟩ : ByteArray) _ _ ([] : List (S103)) t566 _ ?side1 ?side2 ?side3 ?side4 A25.out).mono ?_); (case side1 => refine (Kd.R_reads' (e := 103) (base := w.heap.size) (ok := fun k_ => True) (n := t560.length) (c := co16) ?_).2.2; exact (by (with_reducible repeat (first | apply Kd.R_alloc | apply Kd.R_drewN | apply Kd.R_drew)); exact (Kd.R_mono (Kd.R_far (p := ⟨gb564, 4, none⟩) (Kd.R_far (p := ⟨gb564, 3, none⟩) (Kd.R_far (p := ⟨gb564, 2, none⟩) (Kd.R_far (p := ⟨gb564, 1, none⟩) (Kd.R_far (p := ⟨gb564, 0, none⟩) (Kd.R_types HO562.out BK564.out (by decide)) (fun _ hk => hk.2) (.int .i64 t556)) (fun _ hk => hk.2) (.int .i64 t557)) (fun _ hk => hk.2) (.string t558)) (fun _ hk => hk.2) (.string t559)) (fun _ hk => hk.2) (.slice Ao16 t560.length co16)) (fun _ h_ => h_.1)))); (case side2 => exact (Kd.R_reads' HO562.out).2.1); (case side3 => exact Kd.C_nil _ _); (case side4 => exact Nat.le_refl _); rintro e w27 ⟨rfl, hb⟩; have n0_ := Aside0.mk (Kd.R_below (by (with_reducible repeat (first | apply Kd.R_alloc | apply Kd.R_drewN | apply Kd.R_drew)); exact (Kd.R_mono (Kd.R_far (p := ⟨gb564, 4, none⟩) (Kd.R_far (p := ⟨gb564, 3, none⟩) (Kd.R_far (p := ⟨gb564, 2, none⟩) (Kd.R_far (p := ⟨gb564, 1, none⟩) (Kd.R_far (p := ⟨gb564, 0, none⟩) (Kd.R_types HO562.out BK564.out (by decide)) (fun _ hk => hk.2) (.int .i64 t556)) (fun _ hk => hk.2) (.int .i64 t557)) (fun _ hk => hk.2) (.string t558)) (fun _ hk => hk.2) (.string t559)) (fun _ hk => hk.2) (.slice Ao16 t560.length co16)) (fun _ h_ => h_.1))) hb); have n1_ := Aside0.mk (blk_below (g := gb564) (o := .cells #[.int .i64 t556, .int .i64 t557, .string t558, .string t559, .slice Ao16 t560.length co16] 55 (0, 0)) (by (with_reducible repeat (first | refine blk_drewN ?_ _ | refine blk_drew ?_ | refine blk_alloc ?_ _)); refine blk_put (cs := #[.int .i64 t556, .int .i64 t557, .string t558, .string t559, .slice none 0 0]) ?_ 4 _ rfl; (with_reducible repeat (first | refine blk_drewN ?_ _ | refine blk_drew ?_ | refine blk_alloc ?_ _)); refine blk_put (cs := #[.int .i64 t556, .int .i64 t557, .string t558, .string (⟨#[]⟩ : ByteArray), .slice none 0 0]) ?_ 3 _ rfl; (with_reducible repeat (first | refine blk_drewN ?_ _ | refine blk_drew ?_ | refine blk_alloc ?_ _)); refine blk_put (cs := #[.int .i64 t556, .int .i64 t557, .string (⟨#[]⟩ : ByteArray), .string (⟨#[]⟩ : ByteArray), .slice none 0 0]) ?_ 2 _ rfl; (with_reducible repeat (first | refine blk_drewN ?_ _ | refine blk_drew ?_ | refine blk_alloc ?_ _)); refine blk_put (cs := #[.int .i64 t556, .int .i64 0, .string (⟨#[]⟩ : ByteArray), .string (⟨#[]⟩ : ByteArray), .slice none 0 0]) ?_ 1 _ rfl; (with_reducible repeat (first | refine blk_drewN ?_ _ | refine blk_drew ?_ | refine blk_alloc ?_ _)); refine blk_put (cs := #[.int .i64 0, .int .i64 0, .string (⟨#[]⟩ : ByteArray), .string (⟨#[]⟩ : ByteArray), .slice none 0 0]) ?_ 0 _ rfl; (with_reducible repeat (first | refine blk_drewN ?_ _ | refine blk_drew ?_ | refine blk_alloc ?_ _)); exact BK564.out) hb); have n2_ := Aside0.mk (below_step (by repeat (first | (with_reducible first | exact HB.out | apply below_alloc | apply pw_below_drewN | apply below_drew1 | refine below_set ?_ GE564.out) | exact HB.out)) hb); clear HO562; clear BK564; clear HB; have HO562 := n0_; have BK564 := n1_; have HB := n2_; clear n0_ n1_ n2_; (try clear hb); (try clear hb2); (try clear hk); (try clear hi)))
              go_meet
              case rel => exact ⟨_, (!t566), (by first | rfl | (simp; done) | (simp [*]; done)), H', ⟨by have := HJ2.out; first | omega | exact Nat.le_refl _⟩, ⟨by (with_reducible repeat (first | apply Kd.R_alloc | apply Kd.R_drewN | apply Kd.R_drew)); exact HO562.out⟩, ⟨by (with_reducible repeat (first | refine blk_drewN ?_ _ | refine blk_drew ?_ | refine blk_alloc ?_ _)); exact BK564.out⟩, ⟨by repeat (first | (with_reducible first | exact HB.out | apply below_alloc | apply pw_below_drewN | apply below_drew1 | refine below_set ?_ GE564.out) | exact HB.out)⟩⟩
            · rw [if_neg c24] at H
              have c24b0 : (t563 == 11) = false := beq_eq_false_iff_ne.mpr c24
              have c24b1 : (t563 != 11) = true := bne_iff_ne.mpr c24
              have H' := Aside0.mk H
              clear H
              go_wp2
              go_meet
              case rel => exact ⟨_, (true), (by first | rfl | (simp; done) | (simp [*]; done)), H', ⟨by have := HJ2.out; first | omega | exact Nat.le_refl _⟩, ⟨by (with_reducible repeat (first | apply Kd.R_alloc | apply Kd.R_drewN | apply Kd.R_drew)); exact Kd.R_mono (Kd.R_far (p := ⟨gb564, 4, none⟩) (Kd.R_far (p := ⟨gb564, 3, none⟩) (Kd.R_far (p := ⟨gb564, 2, none⟩) (Kd.R_far (p := ⟨gb564, 1, none⟩) (Kd.R_far (p := ⟨gb564, 0, none⟩) (Kd.R_types HO562.out BK564.out (by decide)) (fun _ hk => hk.2) (.int .i64 t556)) (fun _ hk => hk.2) (.int .i64 t557)) (fun _ hk => hk.2) (.string t558)) (fun _ hk => hk.2) (.string t559)) (fun _ hk => hk.2) (.slice Ao16 t560.length co16)) (fun _ hk => trivial)⟩, ⟨by (with_reducible repeat (first | refine blk_drewN ?_ _ | refine blk_drew ?_ | refine blk_alloc ?_ _)); refine blk_put (cs := #[.int .i64 t556, .int .i64 t557, .string t558, .string t559, .slice none 0 0]) ?_ 4 _ rfl; (with_reducible repeat (first | refine blk_drewN ?_ _ | refine blk_drew ?_ | refine blk_alloc ?_ _)); refine blk_put (cs := #[.int .i64 t556, .int .i64 t557, .string t558, .string (⟨#[]⟩ : ByteArray), .slice none 0 0]) ?_ 3 _ rfl; (with_reducible repeat (first | refine blk_drewN ?_ _ | refine blk_drew ?_ | refine blk_alloc ?_ _)); refine blk_put (cs := #[.int .i64 t556, .int .i64 t557, .string (⟨#[]⟩ : ByteArray), .string (⟨#[]⟩ : ByteArray), .slice none 0 0]) ?_ 2 _ rfl; (with_reducible repeat (first | refine blk_drewN ?_ _ | refine blk_drew ?_ | refine blk_alloc ?_ _)); refine blk_put (cs := #[.int .i64 t556, .int .i64 0, .string (⟨#[]⟩ : ByteArray), .string (⟨#[]⟩ : ByteArray), .slice none 0 0]) ?_ 1 _ rfl; (with_reducible repeat (first | refine blk_drewN ?_ _ | refine blk_drew ?_ | refine blk_alloc ?_ _)); refine blk_put (cs := #[.int .i64 0, .int .i64 0, .string (⟨#[]⟩ : ByteArray), .string (⟨#[]⟩ : ByteArray), .slice none 0 0]) ?_ 0 _ rfl; (with_reducible repeat (first | refine blk_drewN ?_ _ | refine blk_drew ?_ | refine blk_alloc ?_ _)); exact BK564.out⟩, ⟨by repeat (first | (with_reducible first | exact HB.out | apply below_alloc | apply pw_below_drewN | apply below_drew1 | refine below_set ?_ GE564.out) | exact HB.out)⟩⟩
        case rest =>
          clear HC12
          try clear c1
          try clear c2
          try clear p2
          try clear c4
          try clear c5
          try clear c8
          try clear c10
          try clear c17
          try clear c17b0
          try clear c17b1
          try clear c19
          try clear c19b0
          try clear c19b1
          try clear c24
          try clear c24b0
          try clear c24b1
          try clear hcz15_0
          try clear hcz15_1
          try clear hcz15_2
          try clear hcz15_3
          try clear hcz15_4
          try clear hcz20_0
          try clear hcz20_1
          try clear hcz20_2
          try clear hcz20_3
          try clear hcz20_4
          try clear hcz22_0
          try clear hcz22_1
          try clear hcz22_2
          try clear hcz22_3
          try clear hcz22_4
          try clear hcz26_0
          try clear hcz26_1
          try clear hcz26_2
          try clear hcz26_3
          try clear hcz26_4
          try clear hfz15_0
          try clear hfz15_1
          try clear hfz15_2
          try clear hfz15_3
          try clear hfz15_4
          try clear hfz20_0
          try clear hfz20_1
          try clear hfz20_2
          try clear hfz20_3
          try clear hfz20_4
          try clear hfz22_0
          try clear hfz22_1
          try clear hfz22_2
          try clear hfz22_3
          try clear hfz22_4
          try clear hfz26_0
          try clear hfz26_1
          try clear hfz26_2
          try clear hfz26_3
          try clear hfz26_4
          try clear p2
          obtain ⟨kq, x46_11, rfl, HA, HJ11, HO_565004, BK564, HB⟩ := hcut
          cases kq with
          | zero => exact absurd HA.out (by simp [dasdlaw07_LabelStrict.j1])
          | succ kj11 =>
            have H := HA.out
            clear HA
            simp only [dasdlaw07_LabelStrict.j1] at H
            by_cases c28 : x46_11 = true
            · subst c28
              have H1 : (some false) = some r := by rw [if_pos rfl] at H; exact H
              clear H
              have H := H1
              clear H1
              obtain rfl := Option.some.inj H
              go_wp2
              go_ret
              exact ⟨by first | rfl | (simp [errW_none, errW_some] <;> rfl) | (simp [*, errW_none, errW_some] <;> rfl), by repeat (first | (with_reducible first | exact HB.out | apply below_alloc | apply pw_below_drewN | apply below_drew1 | refine below_set ?_ GE564.out) | exact HB.out)⟩
            · replace c28 := Bool.eq_false_iff.mpr c28
              subst c28
              have H1 : ((label_DecodeHead.f kj11 a0).bind fun bt567 => (if bt567.2.2 = 0 then ((label_EncodeHead.f kj11 bt567.1 bt567.2.1).bind fun t570 => (if t570.toList = a0.toList then ((label_ValidName.f kj11 bt567.1).bind fun t571 => (if t571 = true then ((label_TableTracks.f bt567.2.1).bind fun t572 => (some (decide (t572 > 0)))) else (some false))) else (some false))) else (if bt567.2.2 = 11 then (if bt567.1.toList = ([] : List UInt8) then (some (bt567.2.1 == 0)) else (some false)) else (some false)))) = some r := by rw [if_neg (show ¬ (false = true) by decide)] at H; exact H
              clear H
              have H := H1
              clear H1
              replace H := Option.bind_eq_some_iff.mp H
              obtain ⟨⟨t567, t568, t569⟩, A290, H⟩ := H
              replace H : (if t569 = 0 then ((label_EncodeHead.f kj11 t567 t568).bind fun t570 => (if t570.toList = a0.toList then ((label_ValidName.f kj11 t567).bind fun t571 => (if t571 = true then ((label_TableTracks.f t568).bind fun t572 => (some (decide (t572 > 0)))) else (some false))) else (some false))) else (if t569 = 11 then (if t567.toList = ([] : List UInt8) then (some (t568 == 0)) else (some false)) else (some false))) = some r := H
              have A29 := Aside0.mk A290
              clear A290
              by_cases c30 : t569 = 0
              · rw [if_pos c30] at H
                have c30b0 : (t569 == 0) = true := beq_iff_eq.mpr c30
                have c30b1 : (t569 != 0) = false := bne_eq_false_iff_eq.mpr c30
                clear c30
                replace H := Option.bind_eq_some_iff.mp H
                obtain ⟨t570, A310, H⟩ := H
                replace H : (if t570.toList = a0.toList then ((label_ValidName.f kj11 t567).bind fun t571 => (if t571 = true then ((label_TableTracks.f t568).bind fun t572 => (some (decide (t572 > 0)))) else (some false))) else (some false)) = some r := H
                have A31 := Aside0.mk A310
                clear A310
                by_cases c32 : t570.toList = a0.toList
                · rw [if_pos c32] at H
                  have c32b0 : (t570.toList == a0.toList) = true := beq_iff_eq.mpr c32
                  have c32b1 : (t570.toList != a0.toList) = false := bne_eq_false_iff_eq.mpr c32
                  clear c32
                  replace H := Option.bind_eq_some_iff.mp H
                  obtain ⟨t571, A330, H⟩ := H
                  replace H : (if t571 = true then ((label_TableTracks.f t568).bind fun t572 => (some (decide (t572 > 0)))) else (some false)) = some r := H
                  have A33 := Aside0.mk A330
                  clear A330
                  by_cases c34 : t571 = true
                  · subst c34
                    have H1 : ((label_TableTracks.f t568).bind fun t572 => (some (decide (t572 > 0)))) = some r := by rw [if_pos rfl] at H; exact H
                    clear H
                    have H := H1
                    clear H1
                    replace H := Option.bind_eq_some_iff.mp H
                    obtain ⟨t572, A350, H⟩ := H
                    replace H : (some (decide (t572 > 0))) = some r := H
                    have A35 := Aside0.mk A350
                    clear A350
                    obtain rfl := Option.some.inj H
                    go_wp2_with (first | ((with_reducible refine gate_callee (f := 44) rfl ?_); refine goesL_ (some 49) rfl rfl Try.func44 (by kernel_rfl) rfl #[.string a0] rfl (by (try simp only [List.map_toArray, List.map_cons, List.map_nil]); first | done | rfl | (simp only [List.length_drop, List.length_take]; rfl)) ?_; (with_reducible refine (label_DecodeHead.calls kj11 a0 t567 t568 t569 _ A29.out).mono ?_); rintro e w36 ⟨rfl, hb⟩; refine ⟨_, rfl, ?_⟩; have n0_ := Aside0.mk (Kd.R_below (by (with_reducible repeat (first | apply Kd.R_alloc | apply Kd.R_drewN | apply Kd.R_drew)); exact HO_565004.out) hb); have n1_ := Aside0.mk (blk_below (g := gb564) (o := .cells #[.int .i64 t556, .int .i64 t557, .string t558, .string t559, .slice Ao16 t560.length co16] 55 (0, 0)) (by (with_reducible repeat (first | refine blk_drewN ?_ _ | refine blk_drew ?_ | refine blk_alloc ?_ _)); exact BK564.out) hb); have n2_ := Aside0.mk (below_step (by repeat (first | (with_reducible first | exact HB.out | apply below_alloc | apply pw_below_drewN | apply below_drew1 | refine below_set ?_ GE564.out) | exact HB.out)) hb); clear HO_565004; clear BK564; clear HB; have HO_565004 := n0_; have BK564 := n1_; have HB := n2_; clear n0_ n1_ n2_; (try clear hb); (try clear hb2); (try clear hk); (try clear hi)) | ((with_reducible refine gate_callee (f := 48) rfl ?_); refine goesL_ (some 67) rfl rfl Try.func48 (by kernel_rfl) rfl #[.string t567, .int .i64 t568] rfl (by (try simp only [List.map_toArray, List.map_cons, List.map_nil]); first | done | rfl | (simp only [List.length_drop, List.length_take]; rfl)) ?_; (with_reducible refine (label_EncodeHead.calls kj11 t567 t568 t570 _ A31.out).mono ?_); rintro e w37 ⟨rfl, hb⟩; refine ⟨_, rfl, ?_⟩; have n0_ := Aside0.mk (Kd.R_below (by (with_reducible repeat (first | apply Kd.R_alloc | apply Kd.R_drewN | apply Kd.R_drew)); exact HO_565004.out) hb); have n1_ := Aside0.mk (blk_below (g := gb564) (o := .cells #[.int .i64 t556, .int .i64 t557, .string t558, .string t559, .slice Ao16 t560.length co16] 55 (0, 0)) (by (with_reducible repeat (first | refine blk_drewN ?_ _ | refine blk_drew ?_ | refine blk_alloc ?_ _)); exact BK564.out) hb); have n2_ := Aside0.mk (below_step (by repeat (first | (with_reducible first | exact HB.out | apply below_alloc | apply pw_below_drewN | apply below_drew1 | refine below_set ?_ GE564.out) | exact HB.out)) hb); clear HO_565004; clear BK564; clear HB; have HO_565004 := n0_; have BK564 := n1_; have HB := n2_; clear n0_ n1_ n2_; (try clear hb); (try clear hb2); (try clear hk); (try clear hi)) | (go_at_call 46; (with_reducible refine (label_ValidName.calls kj11 t567 true _ A33.out).mono ?_); rintro e w' ⟨rfl, ⟨nd, rfl⟩⟩) | (go_at_call 61; (with_reducible refine (label_TableTracks.calls t568 t572 _ A35.out).mono ?_); rintro e w' ⟨rfl, ⟨nd, rfl⟩⟩))
                    go_ret
                    exact ⟨by first | rfl | (simp [errW_none, errW_some] <;> rfl) | (simp [*, errW_none, errW_some] <;> rfl), by repeat (first | (with_reducible first | exact HB.out | apply below_alloc | apply pw_below_drewN | apply below_drew1 | refine below_set ?_ GE564.out) | exact HB.out)⟩
                  · replace c34 := Bool.eq_false_iff.mpr c34
                    subst c34
                    have H1 : (some false) = some r := by rw [if_neg (show ¬ (false = true) by decide)] at H; exact H
                    clear H
                    have H := H1
                    clear H1
                    obtain rfl := Option.some.inj H
                    go_wp2_with (first | ((with_reducible refine gate_callee (f := 44) rfl ?_); refine goesL_ (some 49) rfl rfl Try.func44 (by kernel_rfl) rfl #[.string a0] rfl (by (try simp only [List.map_toArray, List.map_cons, List.map_nil]); first | done | rfl | (simp only [List.length_drop, List.length_take]; rfl)) ?_; (with_reducible refine (label_DecodeHead.calls kj11 a0 t567 t568 t569 _ A29.out).mono ?_); rintro e w38 ⟨rfl, hb⟩; refine ⟨_, rfl, ?_⟩; have n0_ := Aside0.mk (Kd.R_below (by (with_reducible repeat (first | apply Kd.R_alloc | apply Kd.R_drewN | apply Kd.R_drew)); exact HO_565004.out) hb); have n1_ := Aside0.mk (blk_below (g := gb564) (o := .cells #[.int .i64 t556, .int .i64 t557, .string t558, .string t559, .slice Ao16 t560.length co16] 55 (0, 0)) (by (with_reducible repeat (first | refine blk_drewN ?_ _ | refine blk_drew ?_ | refine blk_alloc ?_ _)); exact BK564.out) hb); have n2_ := Aside0.mk (below_step (by repeat (first | (with_reducible first | exact HB.out | apply below_alloc | apply pw_below_drewN | apply below_drew1 | refine below_set ?_ GE564.out) | exact HB.out)) hb); clear HO_565004; clear BK564; clear HB; have HO_565004 := n0_; have BK564 := n1_; have HB := n2_; clear n0_ n1_ n2_; (try clear hb); (try clear hb2); (try clear hk); (try clear hi)) | ((with_reducible refine gate_callee (f := 48) rfl ?_); refine goesL_ (some 67) rfl rfl Try.func48 (by kernel_rfl) rfl #[.string t567, .int .i64 t568] rfl (by (try simp only [List.map_toArray, List.map_cons, List.map_nil]); first | done | rfl | (simp only [List.length_drop, List.length_take]; rfl)) ?_; (with_reducible refine (label_EncodeHead.calls kj11 t567 t568 t570 _ A31.out).mono ?_); rintro e w39 ⟨rfl, hb⟩; refine ⟨_, rfl, ?_⟩; have n0_ := Aside0.mk (Kd.R_below (by (with_reducible repeat (first | apply Kd.R_alloc | apply Kd.R_drewN | apply Kd.R_drew)); exact HO_565004.out) hb); have n1_ := Aside0.mk (blk_below (g := gb564) (o := .cells #[.int .i64 t556, .int .i64 t557, .string t558, .string t559, .slice Ao16 t560.length co16] 55 (0, 0)) (by (with_reducible repeat (first | refine blk_drewN ?_ _ | refine blk_drew ?_ | refine blk_alloc ?_ _)); exact BK564.out) hb); have n2_ := Aside0.mk (below_step (by repeat (first | (with_reducible first | exact HB.out | apply below_alloc | apply pw_below_drewN | apply below_drew1 | refine below_set ?_ GE564.out) | exact HB.out)) hb); clear HO_565004; clear BK564; clear HB; have HO_565004 := n0_; have BK564 := n1_; have HB := n2_; clear n0_ n1_ n2_; (try clear hb); (try clear hb2); (try clear hk); (try clear hi)) | (go_at_call 46; (with_reducible refine (label_ValidName.calls kj11 t567 false _ A33.out).mono ?_); rintro e w' ⟨rfl, ⟨nd, rfl⟩⟩))
                    go_ret
                    exact ⟨by first | rfl | (simp [errW_none, errW_some] <;> rfl) | (simp [*, errW_none, errW_some] <;> rfl), by repeat (first | (with_reducible first | exact HB.out | apply below_alloc | apply pw_below_drewN | apply below_drew1 | refine below_set ?_ GE564.out) | exact HB.out)⟩
                · rw [if_neg c32] at H
                  have c32b0 : (t570.toList == a0.toList) = false := beq_eq_false_iff_ne.mpr c32
                  have c32b1 : (t570.toList != a0.toList) = true := bne_iff_ne.mpr c32
                  obtain rfl := Option.some.inj H
                  go_wp2_with (first | ((with_reducible refine gate_callee (f := 44) rfl ?_); refine goesL_ (some 49) rfl rfl Try.func44 (by kernel_rfl) rfl #[.string a0] rfl (by (try simp only [List.map_toArray, List.map_cons, List.map_nil]); first | done | rfl | (simp only [List.length_drop, List.length_take]; rfl)) ?_; (with_reducible refine (label_DecodeHead.calls kj11 a0 t567 t568 t569 _ A29.out).mono ?_); rintro e w40 ⟨rfl, hb⟩; refine ⟨_, rfl, ?_⟩; have n0_ := Aside0.mk (Kd.R_below (by (with_reducible repeat (first | apply Kd.R_alloc | apply Kd.R_drewN | apply Kd.R_drew)); exact HO_565004.out) hb); have n1_ := Aside0.mk (blk_below (g := gb564) (o := .cells #[.int .i64 t556, .int .i64 t557, .string t558, .string t559, .slice Ao16 t560.length co16] 55 (0, 0)) (by (with_reducible repeat (first | refine blk_drewN ?_ _ | refine blk_drew ?_ | refine blk_alloc ?_ _)); exact BK564.out) hb); have n2_ := Aside0.mk (below_step (by repeat (first | (with_reducible first | exact HB.out | apply below_alloc | apply pw_below_drewN | apply below_drew1 | refine below_set ?_ GE564.out) | exact HB.out)) hb); clear HO_565004; clear BK564; clear HB; have HO_565004 := n0_; have BK564 := n1_; have HB := n2_; clear n0_ n1_ n2_; (try clear hb); (try clear hb2); (try clear hk); (try clear hi)) | ((with_reducible refine gate_callee (f := 48) rfl ?_); refine goesL_ (some 67) rfl rfl Try.func48 (by kernel_rfl) rfl #[.string t567, .int .i64 t568] rfl (by (try simp only [List.map_toArray, List.map_cons, List.map_nil]); first | done | rfl | (simp only [List.length_drop, List.length_take]; rfl)) ?_; (with_reducible refine (label_EncodeHead.calls kj11 t567 t568 t570 _ A31.out).mono ?_); rintro e w41 ⟨rfl, hb⟩; refine ⟨_, rfl, ?_⟩; have n0_ := Aside0.mk (Kd.R_below (by (with_reducible repeat (first | apply Kd.R_alloc | apply Kd.R_drewN | apply Kd.R_drew)); exact HO_565004.out) hb); have n1_ := Aside0.mk (blk_below (g := gb564) (o := .cells #[.int .i64 t556, .int .i64 t557, .string t558, .string t559, .slice Ao16 t560.length co16] 55 (0, 0)) (by (with_reducible repeat (first | refine blk_drewN ?_ _ | refine blk_drew ?_ | refine blk_alloc ?_ _)); exact BK564.out) hb); have n2_ := Aside0.mk (below_step (by repeat (first | (with_reducible first | exact HB.out | apply below_alloc | apply pw_below_drewN | apply below_drew1 | refine below_set ?_ GE564.out) | exact HB.out)) hb); clear HO_565004; clear BK564; clear HB; have HO_565004 := n0_; have BK564 := n1_; have HB := n2_; clear n0_ n1_ n2_; (try clear hb); (try clear hb2); (try clear hk); (try clear hi)))
                  go_ret
                  exact ⟨by first | rfl | (simp [errW_none, errW_some] <;> rfl) | (simp [*, errW_none, errW_some] <;> rfl), by repeat (first | (with_reducible first | exact HB.out | apply below_alloc | apply pw_below_drewN | apply below_drew1 | refine below_set ?_ GE564.out) | exact HB.out)⟩
              · rw [if_neg c30] at H
                have c30b0 : (t569 == 0) = false := beq_eq_false_iff_ne.mpr c30
                have c30b1 : (t569 != 0) = true := bne_iff_ne.mpr c30
                by_cases c42 : t569 = 11
                · rw [if_pos c42] at H
                  have c42b0 : (t569 == 11) = true := beq_iff_eq.mpr c42
                  have c42b1 : (t569 != 11) = false := bne_eq_false_iff_eq.mpr c42
                  clear c42
                  by_cases c43 : t567.toList = ([] : List UInt8)
                  · rw [if_pos c43] at H
                    have c43b0 : (t567.toList == ([] : List UInt8)) = true := beq_iff_eq.mpr c43
                    have c43b1 : (t567.toList != ([] : List UInt8)) = false := bne_eq_false_iff_eq.mpr c43
                    clear c43
                    obtain rfl := Option.some.inj H
                    go_wp2_with (first | ((with_reducible refine gate_callee (f := 44) rfl ?_); refine goesL_ (some 49) rfl rfl Try.func44 (by kernel_rfl) rfl #[.string a0] rfl (by (try simp only [List.map_toArray, List.map_cons, List.map_nil]); first | done | rfl | (simp only [List.length_drop, List.length_take]; rfl)) ?_; (with_reducible refine (label_DecodeHead.calls kj11 a0 t567 t568 t569 _ A29.out).mono ?_); rintro e w44 ⟨rfl, hb⟩; refine ⟨_, rfl, ?_⟩; have n0_ := Aside0.mk (Kd.R_below (by (with_reducible repeat (first | apply Kd.R_alloc | apply Kd.R_drewN | apply Kd.R_drew)); exact HO_565004.out) hb); have n1_ := Aside0.mk (blk_below (g := gb564) (o := .cells #[.int .i64 t556, .int .i64 t557, .string t558, .string t559, .slice Ao16 t560.length co16] 55 (0, 0)) (by (with_reducible repeat (first | refine blk_drewN ?_ _ | refine blk_drew ?_ | refine blk_alloc ?_ _)); exact BK564.out) hb); have n2_ := Aside0.mk (below_step (by repeat (first | (with_reducible first | exact HB.out | apply below_alloc | apply pw_below_drewN | apply below_drew1 | refine below_set ?_ GE564.out) | exact HB.out)) hb); clear HO_565004; clear BK564; clear HB; have HO_565004 := n0_; have BK564 := n1_; have HB := n2_; clear n0_ n1_ n2_; (try clear hb); (try clear hb2); (try clear hk); (try clear hi)))
                    go_ret
                    exact ⟨by first | rfl | (simp [errW_none, errW_some] <;> rfl) | (simp [*, errW_none, errW_some] <;> rfl), by repeat (first | (with_reducible first | exact HB.out | apply below_alloc | apply pw_below_drewN | apply below_drew1 | refine below_set ?_ GE564.out) | exact HB.out)⟩
                  · rw [if_neg c43] at H
                    have c43b0 : (t567.toList == ([] : List UInt8)) = false := beq_eq_false_iff_ne.mpr c43
                    have c43b1 : (t567.toList != ([] : List UInt8)) = true := bne_iff_ne.mpr c43
                    obtain rfl := Option.some.inj H
                    go_wp2_with (first | ((with_reducible refine gate_callee (f := 44) rfl ?_); refine goesL_ (some 49) rfl rfl Try.func44 (by kernel_rfl) rfl #[.string a0] rfl (by (try simp only [List.map_toArray, List.map_cons, List.map_nil]); first | done | rfl | (simp only [List.length_drop, List.length_take]; rfl)) ?_; (with_reducible refine (label_DecodeHead.calls kj11 a0 t567 t568 t569 _ A29.out).mono ?_); rintro e w45 ⟨rfl, hb⟩; refine ⟨_, rfl, ?_⟩; have n0_ := Aside0.mk (Kd.R_below (by (with_reducible repeat (first | apply Kd.R_alloc | apply Kd.R_drewN | apply Kd.R_drew)); exact HO_565004.out) hb); have n1_ := Aside0.mk (blk_below (g := gb564) (o := .cells #[.int .i64 t556, .int .i64 t557, .string t558, .string t559, .slice Ao16 t560.length co16] 55 (0, 0)) (by (with_reducible repeat (first | refine blk_drewN ?_ _ | refine blk_drew ?_ | refine blk_alloc ?_ _)); exact BK564.out) hb); have n2_ := Aside0.mk (below_step (by repeat (first | (with_reducible first | exact HB.out | apply below_alloc | apply pw_below_drewN | apply below_drew1 | refine below_set ?_ GE564.out) | exact HB.out)) hb); clear HO_565004; clear BK564; clear HB; have HO_565004 := n0_; have BK564 := n1_; have HB := n2_; clear n0_ n1_ n2_; (try clear hb); (try clear hb2); (try clear hk); (try clear hi)))
                    go_ret
                    exact ⟨by first | rfl | (simp [errW_none, errW_some] <;> rfl) | (simp [*, errW_none, errW_some] <;> rfl), by repeat (first | (with_reducible first | exact HB.out | apply below_alloc | apply pw_below_drewN | apply below_drew1 | refine below_set ?_ GE564.out) | exact HB.out)⟩
                · rw [if_neg c42] at H
                  have c42b0 : (t569 == 11) = false := beq_eq_false_iff_ne.mpr c42
                  have c42b1 : (t569 != 11) = true := bne_iff_ne.mpr c42
                  obtain rfl := Option.some.inj H
                  go_wp2_with (first | ((with_reducible refine gate_callee (f := 44) rfl ?_); refine goesL_ (some 49) rfl rfl Try.func44 (by kernel_rfl) rfl #[.string a0] rfl (by (try simp only [List.map_toArray, List.map_cons, List.map_nil]); first | done | rfl | (simp only [List.length_drop, List.length_take]; rfl)) ?_; (with_reducible refine (label_DecodeHead.calls kj11 a0 t567 t568 t569 _ A29.out).mono ?_); rintro e w46 ⟨rfl, hb⟩; refine ⟨_, rfl, ?_⟩; have n0_ := Aside0.mk (Kd.R_below (by (with_reducible repeat (first | apply Kd.R_alloc | apply Kd.R_drewN | apply Kd.R_drew)); exact HO_565004.out) hb); have n1_ := Aside0.mk (blk_below (g := gb564) (o := .cells #[.int .i64 t556, .int .i64 t557, .string t558, .string t559, .slice Ao16 t560.length co16] 55 (0, 0)) (by (with_reducible repeat (first | refine blk_drewN ?_ _ | refine blk_drew ?_ | refine blk_alloc ?_ _)); exact BK564.out) hb); have n2_ := Aside0.mk (below_step (by repeat (first | (with_reducible first | exact HB.out | apply below_alloc | apply pw_below_drewN | apply below_drew1 | refine below_set ?_ GE564.out) | exact HB.out)) hb); clear HO_565004; clear BK564; clear HB; have HO_565004 := n0_; have BK564 := n1_; have HB := n2_; clear n0_ n1_ n2_; (try clear hb); (try clear hb2); (try clear hk); (try clear hi)))
                  go_ret
                  exact ⟨by first | rfl | (simp [errW_none, errW_some] <;> rfl) | (simp [*, errW_none, errW_some] <;> rfl), by repeat (first | (with_reducible first | exact HB.out | apply below_alloc | apply pw_below_drewN | apply below_drew1 | refine below_set ?_ GE564.out) | exact HB.out)⟩

/-- THE ONE PURE STATEMENT of dasdlaw07_LabelStrict: yours. -/
def dasdlaw07_LabelStrict.Pure : Prop := ∀ (a0 : ByteArray) (a1 : Int), a0.size ≤ 140737488351232 → (Lit.int .i64 a1).wf = true → ∃ k, dasdlaw07_LabelStrict.f k a0 a1 = some true
theorem dasdlaw07_LabelStrict.walk (P : dasdlaw07_LabelStrict.Pure) (a0 : ByteArray) (a1 : Int) (w : World) (w0 : a0.size ≤ 140737488351232) (w1 : (Lit.int .i64 a1).wf = true) :
    Calls Try.prog 10 #[.string a0, .int .i64 a1] w fun e w' => e = .returned (.bool true) ∧ Below w.heap.size w w' := by
  obtain ⟨k, h⟩ := P a0 a1 w0 w1
  refine (dasdlaw07_LabelStrict.calls k a0 a1 true w h).mono ?_
  rintro e w' ⟨rfl, hd⟩
  exact ⟨rfl, hd⟩

end Go.Proofs.Ytegefemkmdlmaaa.P
