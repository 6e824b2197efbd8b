-- Printed by a program of this session (hand.py) out of the translation. Lean checks it.
import Derived.Test.YtegefemkmdlmaaaF0
import Derived.Test.YtegefemkmdlmaaaGa
namespace Go.Proofs.Ytegefemkmdlmaaa.P
open Go.RowKit Go.Proofs.YtegefemkmdlmaaaW.PrintWords Go.Proofs.YtegefemkmdlmaaaW.PrintLast Go.Proofs.YtegefemkmdlmaaaW.PrintMore
attribute [local go_sem] max2_int min2_int max_two min_two max_three min_three max_four min_four   -- for this text's walks alone
set_option linter.unusedVariables false
set_option linter.unusedSimpArgs false

/-! ### dasdlaw01_WireStrict: function 18 -/
mutual
def dasdlaw01_WireStrict.j0 : Nat → ByteArray → Int → Bool → Option (Bool)
  | 0, _, _, _ => none
  | k + 1, x0, x1, x14 => if x14 = true then ((dasdlaw01_awake.f k).bind fun t861 => (some t861)) else ((wire_NewReader.f x0).bind fun bt862 => (if (Int.tmod x1 4) = 0 then ((wire_Reader_Number.f bt862.1 bt862.2).bind fun bt865 => ((wire_AppendNumber.f (⟨#[]⟩ : ByteArray) bt865.1).bind fun t868 => (dasdlaw01_WireStrict.j1 k x0 t868 bt865.2.1 bt865.2.2))) else (if (Int.tmod x1 4) = 1 then ((wire_Reader_Int.f bt862.1 bt862.2).bind fun bt869 => ((wire_AppendInt.f (⟨#[]⟩ : ByteArray) bt869.1).bind fun t872 => (dasdlaw01_WireStrict.j1 k x0 t872 bt869.2.1 bt869.2.2))) else (if (Int.tmod x1 4) = 2 then ((wire_Reader_Bool.f bt862.1 bt862.2).bind fun bt873 => ((wire_AppendBool.f (⟨#[]⟩ : ByteArray) bt873.1).bind fun t876 => (dasdlaw01_WireStrict.j1 k x0 t876 bt873.2.1 bt873.2.2))) else ((wire_Reader_Text.f bt862.1 bt862.2 300).bind fun bt877 => ((wire_AppendText.f (⟨#[]⟩ : ByteArray) bt877.1).bind fun t880 => (dasdlaw01_WireStrict.j1 k x0 t880 bt877.2.1 bt877.2.2)))))))
def dasdlaw01_WireStrict.j1 : Nat → ByteArray → ByteArray → ByteArray → Int → Option (Bool)
  | 0, _, _, _, _ => none
  | k + 1, x0, x6, x865000, x865001 => (wire_Reader_End.f x865000 x865001).bind fun bt881 => (if bt881.1 = 0 then (dasdlaw01_WireStrict.j2 k x0 x6 false bt881.2.1 bt881.2.2) else ((wire_Reader_Left.f bt881.2.1 bt881.2.2).bind fun bt884 => (dasdlaw01_WireStrict.j2 k x0 x6 (bt884.1 == 0) bt884.2.1 bt884.2.2)))
def dasdlaw01_WireStrict.j2 : Nat → ByteArray → ByteArray → Bool → ByteArray → Int → Option (Bool)
  | 0, _, _, _, _, _ => none
  | k + 1, x0, x6, x48, x865000, x865001 => if x48 = true then ((wire_Reader_Rest.f x865000 x865001).bind fun bt887 => (some (bt887.1.toList == ([] : List UInt8)))) else ((wire_Reader_Rest.f x865000 x865001).bind fun bt890 => (if x6.size + bt890.1.size ≤ 9223372036854775807 then (if (x6 ++ bt890.1).toList = x0.toList then ((wire_Reader_Left.f bt890.2.1 bt890.2.2).bind fun bt893 => ((wire_Reader_Rest.f bt893.2.1 bt893.2.2).bind fun bt896 => (some (bt893.1 == (bt896.1.size : Int))))) else (some false)) else (none)))
end
def dasdlaw01_WireStrict.f (k : Nat) (a0 : ByteArray) (a1 : Int) : Option (Bool) := (dasdlaw01_awake.f k).bind fun t860 => (if t860 = true then (dasdlaw01_WireStrict.j0 k a0 a1 (decide ((a0.size : Int) > 300))) else (dasdlaw01_WireStrict.j0 k a0 a1 true))
theorem dasdlaw01_WireStrict.mono_l : ∀ k, (∀ y0 y1 y2, LeO (dasdlaw01_WireStrict.j0 k y0 y1 y2) (dasdlaw01_WireStrict.j0 (k + 1) y0 y1 y2)) ∧ (∀ y0 y1 y2 y3, LeO (dasdlaw01_WireStrict.j1 k y0 y1 y2 y3) (dasdlaw01_WireStrict.j1 (k + 1) y0 y1 y2 y3)) ∧ (∀ y0 y1 y2 y3 y4, LeO (dasdlaw01_WireStrict.j2 k y0 y1 y2 y3 y4) (dasdlaw01_WireStrict.j2 (k + 1) y0 y1 y2 y3 y4))
  | 0 => ⟨fun _ _ _ r h => by simp [dasdlaw01_WireStrict.j0] at h, fun _ _ _ _ r h => by simp [dasdlaw01_WireStrict.j1] at h, fun _ _ _ _ _ r h => by simp [dasdlaw01_WireStrict.j2] at h⟩
  | k + 1 => by
    obtain ⟨ih0, ih1, ih2⟩ := dasdlaw01_WireStrict.mono_l k
    refine ⟨?_, ?_, ?_⟩
    · intro y0 y1 y2
      unfold dasdlaw01_WireStrict.j0
      repeat' first
      | (with_reducible exact ih0 _ _ _)
      | (with_reducible exact ih1 _ _ _ _)
      | (with_reducible exact ih2 _ _ _ _ _)
      | (with_reducible exact dasdlaw01_awake.mono _)
      | (with_reducible exact LeO.refl _)
      | (with_reducible exact LeO.none _)
      | (with_reducible refine LeO.ite ?_ ?_)
      | (with_reducible refine LeO.bind ?_ (fun _ => ?_))
      | exact ih0 _ _ _
      | exact ih1 _ _ _ _
      | exact ih2 _ _ _ _ _
      | exact dasdlaw01_awake.mono _
      | exact LeO.none _
      | refine LeO.ite ?_ ?_
      | refine LeO.bind ?_ (fun _ => ?_)
    · intro y0 y1 y2 y3
      unfold dasdlaw01_WireStrict.j1
      repeat' first
      | (with_reducible exact ih0 _ _ _)
      | (with_reducible exact ih1 _ _ _ _)
      | (with_reducible exact ih2 _ _ _ _ _)
      | (with_reducible exact dasdlaw01_awake.mono _)
      | (with_reducible exact LeO.refl _)
      | (with_reducible exact LeO.none _)
      | (with_reducible refine LeO.ite ?_ ?_)
      | (with_reducible refine LeO.bind ?_ (fun _ => ?_))
      | exact ih0 _ _ _
      | exact ih1 _ _ _ _
      | exact ih2 _ _ _ _ _
      | exact dasdlaw01_awake.mono _
      | exact LeO.none _
      | refine LeO.ite ?_ ?_
      | refine LeO.bind ?_ (fun _ => ?_)
    · intro y0 y1 y2 y3 y4
      unfold dasdlaw01_WireStrict.j2
      repeat' first
      | (with_reducible exact ih0 _ _ _)
      | (with_reducible exact ih1 _ _ _ _)
      | (with_reducible exact ih2 _ _ _ _ _)
      | (with_reducible exact dasdlaw01_awake.mono _)
      | (with_reducible exact LeO.refl _)
      | (with_reducible exact LeO.none _)
      | (with_reducible refine LeO.ite ?_ ?_)
      | (with_reducible refine LeO.bind ?_ (fun _ => ?_))
      | exact ih0 _ _ _
      | exact ih1 _ _ _ _
      | exact ih2 _ _ _ _ _
      | exact dasdlaw01_awake.mono _
      | exact LeO.none _
      | refine LeO.ite ?_ ?_
      | refine LeO.bind ?_ (fun _ => ?_)
theorem dasdlaw01_WireStrict.mono : ∀ a0 a1 k, LeO (dasdlaw01_WireStrict.f k a0 a1) (dasdlaw01_WireStrict.f (k + 1) a0 a1) := by
  intro a0 a1 k
  obtain ⟨ih0, ih1, ih2⟩ := dasdlaw01_WireStrict.mono_l k
  unfold dasdlaw01_WireStrict.f
  repeat' first
      | (with_reducible exact ih0 _ _ _)
      | (with_reducible exact ih1 _ _ _ _)
      | (with_reducible exact ih2 _ _ _ _ _)
      | (with_reducible exact dasdlaw01_awake.mono _)
      | (with_reducible exact LeO.refl _)
      | (with_reducible exact LeO.none _)
      | (with_reducible refine LeO.ite ?_ ?_)
      | (with_reducible refine LeO.bind ?_ (fun _ => ?_))
      | exact ih0 _ _ _
      | exact ih1 _ _ _ _
      | exact ih2 _ _ _ _ _
      | exact dasdlaw01_awake.mono _
      | exact LeO.none _
      | refine LeO.ite ?_ ?_
      | refine LeO.bind ?_ (fun _ => ?_)
set_option maxHeartbeats 8000000 in
set_option maxRecDepth 100000 in
theorem dasdlaw01_WireStrict.calls (k : Nat) (a0 : ByteArray) (a1 : Int) (r : Bool) (w : World) (h : dasdlaw01_WireStrict.f k a0 a1 = some r) :
    Calls Try.prog 18 #[.string a0, .int .u8 a1] w fun e w' => e = .returned (.bool r) ∧ Below w.heap.size w w' := by
  have HB := Aside0.mk (Below.refl w.heap.size w)
  have H : ((dasdlaw01_awake.f k).bind fun t860 => (if t860 = true then (dasdlaw01_WireStrict.j0 k a0 a1 (decide ((a0.size : Int) > 300))) else (dasdlaw01_WireStrict.j0 k a0 a1 true))) = some r := h
  clear h
  have HC3 := Aside0.mk H
  clear H
  go_enter Try.func18, Try.ntmps18
  go_upto_region 1 with (fail)
  go_cut [14] (fun v14 wc => ∃ (kq : Nat) (x14_2 : Bool), v14 = .bool x14_2 ∧ Aside0 (dasdlaw01_WireStrict.j0 kq a0 a1 x14_2 = some r) ∧ Aside0 (kq ≤ k) ∧ Aside0 (Below w.heap.size w wc))
  case first =>
    have H := HC3.out
    clear HC3
    replace H := Option.bind_eq_some_iff.mp H
    obtain ⟨t860, A40, H⟩ := H
    replace H : (if t860 = true then (dasdlaw01_WireStrict.j0 k a0 a1 (decide ((a0.size : Int) > 300))) else (dasdlaw01_WireStrict.j0 k a0 a1 true)) = some r := H
    have A4 := Aside0.mk A40
    clear A40
    by_cases c5 : t860 = true
    · subst c5
      have H1 : (dasdlaw01_WireStrict.j0 k a0 a1 (decide ((a0.size : Int) > 300))) = some r := by rw [if_pos rfl] at H; exact H
      clear H
      have H := H1
      clear H1
      have H' := Aside0.mk H
      clear H
      go_wp2_with (first | ((with_reducible refine gate_callee (f := 25) rfl ?_); refine goesL_ (some 8) rfl rfl Try.func25 (by kernel_rfl) rfl #[] rfl (by (try simp only [List.map_toArray, List.map_cons, List.map_nil]); first | done | rfl | (simp only [List.length_drop, List.length_take]; rfl)) ?_; (with_reducible refine (dasdlaw01_awake.calls k  true _ A4.out).mono ?_); rintro e w6 ⟨rfl, hb⟩; refine ⟨_, rfl, ?_⟩; have n0_ := Aside0.mk (below_step (by repeat (first | (with_reducible first | exact HB.out | apply below_alloc | apply pw_below_drewN | apply below_drew1) | exact HB.out)) hb); clear HB; have HB := n0_; clear n0_; (try clear hb); (try clear hb2); (try clear hk); (try clear hi)))
      go_meet
      case rel => exact ⟨_, (decide ((a0.size : Int) > 300)), (by first | rfl | (simp; done) | (simp [*]; done)), H', ⟨by first | omega | exact Nat.le_refl _⟩, ⟨by repeat (first | (with_reducible first | exact HB.out | apply below_alloc | apply pw_below_drewN | apply below_drew1) | exact HB.out)⟩⟩
    · replace c5 := Bool.eq_false_iff.mpr c5
      subst c5
      have H1 : (dasdlaw01_WireStrict.j0 k a0 a1 true) = some r := by rw [if_neg (show ¬ (false = true) by decide)] at H; exact H
      clear H
      have H := H1
      clear H1
      have H' := Aside0.mk H
      clear H
      go_wp2_with (first | ((with_reducible refine gate_callee (f := 25) rfl ?_); refine goesL_ (some 8) rfl rfl Try.func25 (by kernel_rfl) rfl #[] rfl (by (try simp only [List.map_toArray, List.map_cons, List.map_nil]); first | done | rfl | (simp only [List.length_drop, List.length_take]; rfl)) ?_; (with_reducible refine (dasdlaw01_awake.calls k  false _ A4.out).mono ?_); rintro e w7 ⟨rfl, hb⟩; refine ⟨_, rfl, ?_⟩; have n0_ := Aside0.mk (below_step (by repeat (first | (with_reducible first | exact HB.out | apply below_alloc | apply pw_below_drewN | apply below_drew1) | exact HB.out)) hb); clear HB; have HB := n0_; clear n0_; (try clear hb); (try clear hb2); (try clear hk); (try clear hi)))
      go_meet
      case rel => exact ⟨_, (true), (by first | rfl | (simp; done) | (simp [*]; done)), H', ⟨by first | omega | exact Nat.le_refl _⟩, ⟨by repeat (first | (with_reducible first | exact HB.out | apply below_alloc | apply pw_below_drewN | apply below_drew1) | exact HB.out)⟩⟩
  case rest =>
    clear HC3
    try clear c1
    try clear c2
    try clear p2
    try clear c5
    obtain ⟨kq, x14_2, rfl, HA, HJ2, HB⟩ := hcut
    cases kq with
    | zero => exact absurd HA.out (by simp [dasdlaw01_WireStrict.j0])
    | succ kj2 =>
      have H := HA.out
      clear HA
      simp only [dasdlaw01_WireStrict.j0] at H
      by_cases c8 : x14_2 = true
      · subst c8
        have H1 : ((dasdlaw01_awake.f kj2).bind fun t861 => (some t861)) = some r := by rw [if_pos rfl] at H; exact H
        clear H
        have H := H1
        clear H1
        replace H := Option.bind_eq_some_iff.mp H
        obtain ⟨t861, A90, H⟩ := H
        replace H : (some t861) = some r := H
        have A9 := Aside0.mk A90
        clear A90
        obtain rfl := Option.some.inj H
        go_wp2_with (first | ((with_reducible refine gate_callee (f := 25) rfl ?_); refine goesL_ (some 15) rfl rfl Try.func25 (by kernel_rfl) rfl #[] rfl (by (try simp only [List.map_toArray, List.map_cons, List.map_nil]); first | done | rfl | (simp only [List.length_drop, List.length_take]; rfl)) ?_; (with_reducible refine (dasdlaw01_awake.calls kj2  t861 _ A9.out).mono ?_); rintro e w10 ⟨rfl, hb⟩; refine ⟨_, rfl, ?_⟩; have n0_ := Aside0.mk (below_step (by repeat (first | (with_reducible first | exact HB.out | apply below_alloc | apply pw_below_drewN | apply below_drew1) | exact HB.out)) hb); clear HB; have HB := n0_; clear n0_; (try clear hb); (try clear hb2); (try clear hk); (try clear hi)))
        go_ret
        exact ⟨by first | rfl | (simp [errW_none, errW_some] <;> rfl) | (simp [*, errW_none, errW_some] <;> rfl), by repeat (first | (with_reducible first | exact HB.out | apply below_alloc | apply pw_below_drewN | apply below_drew1) | exact HB.out)⟩
      · replace c8 := Bool.eq_false_iff.mpr c8
        subst c8
        have H1 : ((wire_NewReader.f a0).bind fun bt862 => (if (Int.tmod a1 4) = 0 then ((wire_Reader_Number.f bt862.1 bt862.2).bind fun bt865 => ((wire_AppendNumber.f (⟨#[]⟩ : ByteArray) bt865.1).bind fun t868 => (dasdlaw01_WireStrict.j1 kj2 a0 t868 bt865.2.1 bt865.2.2))) else (if (Int.tmod a1 4) = 1 then ((wire_Reader_Int.f bt862.1 bt862.2).bind fun bt869 => ((wire_AppendInt.f (⟨#[]⟩ : ByteArray) bt869.1).bind fun t872 => (dasdlaw01_WireStrict.j1 kj2 a0 t872 bt869.2.1 bt869.2.2))) else (if (Int.tmod a1 4) = 2 then ((wire_Reader_Bool.f bt862.1 bt862.2).bind fun bt873 => ((wire_AppendBool.f (⟨#[]⟩ : ByteArray) bt873.1).bind fun t876 => (dasdlaw01_WireStrict.j1 kj2 a0 t876 bt873.2.1 bt873.2.2))) else ((wire_Reader_Text.f bt862.1 bt862.2 300).bind fun bt877 => ((wire_AppendText.f (⟨#[]⟩ : ByteArray) bt877.1).bind fun t880 => (dasdlaw01_WireStrict.j1 kj2 a0 t880 bt877.2.1 bt877.2.2))))))) = some r := by rw [if_neg (show ¬ (false = true) by decide)] at H; exact H
        clear H
        have H := H1
        clear H1
        replace H := Option.bind_eq_some_iff.mp H
        obtain ⟨⟨t862, t863⟩, A110, H⟩ := H
        replace H : (if (Int.tmod a1 4) = 0 then ((wire_Reader_Number.f t862 t863).bind fun bt865 => ((wire_AppendNumber.f (⟨#[]⟩ : ByteArray) bt865.1).bind fun t868 => (dasdlaw01_WireStrict.j1 kj2 a0 t868 bt865.2.1 bt865.2.2))) else (if (Int.tmod a1 4) = 1 then ((wire_Reader_Int.f t862 t863).bind fun bt869 => ((wire_AppendInt.f (⟨#[]⟩ : ByteArray) bt869.1).bind fun t872 => (dasdlaw01_WireStrict.j1 kj2 a0 t872 bt869.2.1 bt869.2.2))) else (if (Int.tmod a1 4) = 2 then ((wire_Reader_Bool.f t862 t863).bind fun bt873 => ((wire_AppendBool.f (⟨#[]⟩ : ByteArray) bt873.1).bind fun t876 => (dasdlaw01_WireStrict.j1 kj2 a0 t876 bt873.2.1 bt873.2.2))) else ((wire_Reader_Text.f t862 t863 300).bind fun bt877 => ((wire_AppendText.f (⟨#[]⟩ : ByteArray) bt877.1).bind fun t880 => (dasdlaw01_WireStrict.j1 kj2 a0 t880 bt877.2.1 bt877.2.2)))))) = some r := H
        have A11 := Aside0.mk A110
        clear A110
        have HC12 := Aside0.mk H
        clear H
        go_upto_block 0 with (first | ((with_reducible refine gate_callee (f := 62) rfl ?_); refine goesL_ (some 17) rfl rfl Try.func62 (by kernel_rfl) rfl #[.string a0] rfl (by (try simp only [List.map_toArray, List.map_cons, List.map_nil]); first | done | rfl | (simp only [List.length_drop, List.length_take]; rfl)) ?_; (with_reducible refine (wire_NewReader.calls a0 t862 t863 w _ ?side1 A11.out).mono ?_); (case side1 => repeat (first | (with_reducible first | exact HB.out | apply below_alloc | apply pw_below_drewN | apply below_drew1) | exact HB.out)); rintro e w13 ⟨g864, rfl, hi, hb, hb2⟩; refine ⟨_, rfl, ?_⟩; have n0_ := Aside0.mk (hb); have n1_ := Aside0.mk (hi); clear HB; have HB := n0_; have HI864 := n1_; clear n0_ n1_; (try clear hb); (try clear hb2); (try clear hk); (try clear hi)))
        (try simp only [Act.put, List.setIfInBounds_toArray, List.set_cons_zero, List.set_cons_succ])
        go_cut [6] (fun v6 wc => ∃ (kq : Nat) (x6_11 : ByteArray) (x865000_11 : ByteArray) (x865001_11 : Int), v6 = .string x6_11 ∧ Aside0 (dasdlaw01_WireStrict.j1 kq a0 x6_11 x865000_11 x865001_11 = some r) ∧ Aside0 (kq ≤ kj2) ∧ Aside0 (IsS110 w wc g864 x865000_11 x865001_11) ∧ Aside0 (Below w.heap.size w wc))
        case first =>
          have H := HC12.out
          clear HC12
          by_cases c14 : (Int.tmod a1 4) = 0
          · rw [if_pos c14] at H
            have c14b0 : ((Int.tmod a1 4) == 0) = true := beq_iff_eq.mpr c14
            have c14b1 : ((Int.tmod a1 4) != 0) = false := bne_eq_false_iff_eq.mpr c14
            clear c14
            (first | rw [c14b0] | (simp only [i64_w, i32_w]; rw [c14b0]) | skip)
            replace H := Option.bind_eq_some_iff.mp H
            obtain ⟨⟨t865, t866, t867⟩, A150, H⟩ := H
            replace H : ((wire_AppendNumber.f (⟨#[]⟩ : ByteArray) t865).bind fun t868 => (dasdlaw01_WireStrict.j1 kj2 a0 t868 t866 t867)) = some r := H
            have A15 := Aside0.mk A150
            clear A150
            replace H := Option.bind_eq_some_iff.mp H
            obtain ⟨t868, A160, H⟩ := H
            replace H : (dasdlaw01_WireStrict.j1 kj2 a0 t868 t866 t867) = some r := H
            have A16 := Aside0.mk A160
            clear A160
            have H' := Aside0.mk H
            clear H
            go_wp2_with (first | ((with_reducible refine gate_callee (f := 71) rfl ?_); refine goesL_ (some 28) rfl rfl Try.func71 (by kernel_rfl) rfl #[.pointer (some ⟨g864, 0, none⟩)] rfl (by (try simp only [List.map_toArray, List.map_cons, List.map_nil]); first | done | rfl | (simp only [List.length_drop, List.length_take]; rfl)) ?_; (with_reducible refine (wire_Reader_Number.calls g864 t862 t863 t865 t866 t867 w _ ?side1 ?side2 A15.out).mono ?_); (case side1 => repeat (first | (with_reducible first | exact HI864.out | apply IsS110.alloc | apply IsS110.drewN | apply IsS110.drew | apply IsS110.set_0 | apply IsS110.set_1) | exact HI864.out)); (case side2 => repeat (first | (with_reducible first | exact HB.out | apply below_alloc | apply pw_below_drewN | apply below_drew1 | refine below_set ?_ (IsS110.ge HI864.out)) | exact HB.out)); rintro e w17 ⟨rfl, hi, hb, hk⟩; refine ⟨_, rfl, ?_⟩; have n0_ := Aside0.mk (hb); have n1_ := Aside0.mk (hi); clear HB; clear HI864; have HB := n0_; have HI864 := n1_; clear n0_ n1_; (try clear hb); (try clear hb2); (try clear hk); (try clear hi)) | ((with_reducible refine gate_callee (f := 26) rfl ?_); refine goesL_ (some 29) rfl rfl Try.func26 (by kernel_rfl) rfl #[.string (⟨#[]⟩ : ByteArray), .int .u64 t865] rfl (by (try simp only [List.map_toArray, List.map_cons, List.map_nil]); first | done | rfl | (simp only [List.length_drop, List.length_take]; rfl)) ?_; (with_reducible refine (wire_AppendNumber.calls (⟨#[]⟩ : ByteArray) t865 t868 _ A16.out).mono ?_); rintro e w18 ⟨rfl, hb⟩; refine ⟨_, rfl, ?_⟩; have n0_ := Aside0.mk (IsS110.below (by repeat (first | (with_reducible first | exact HI864.out | apply IsS110.alloc | apply IsS110.drewN | apply IsS110.drew | apply IsS110.set_0 | apply IsS110.set_1) | exact HI864.out)) hb); have n1_ := Aside0.mk (below_step (by repeat (first | (with_reducible first | exact HB.out | apply below_alloc | apply pw_below_drewN | apply below_drew1 | refine below_set ?_ (IsS110.ge HI864.out)) | exact HB.out)) hb); clear HI864; clear HB; have HI864 := n0_; have HB := n1_; clear n0_ n1_; (try clear hb); (try clear hb2); (try clear hk); (try clear hi)))
            go_meet
            case rel => exact ⟨_, (t868), (t866), (t867), (by first | rfl | (simp; done) | (simp [*]; done)), H', ⟨by have := HJ2.out; first | omega | exact Nat.le_refl _⟩, ⟨by repeat (first | (with_reducible first | exact HI864.out | apply IsS110.alloc | apply IsS110.drewN | apply IsS110.drew | apply IsS110.set_0 | apply IsS110.set_1) | exact HI864.out)⟩, ⟨by repeat (first | (with_reducible first | exact HB.out | apply below_alloc | apply pw_below_drewN | apply below_drew1 | refine below_set ?_ (IsS110.ge HI864.out)) | exact HB.out)⟩⟩
          · rw [if_neg c14] at H
            have c14b0 : ((Int.tmod a1 4) == 0) = false := beq_eq_false_iff_ne.mpr c14
            have c14b1 : ((Int.tmod a1 4) != 0) = true := bne_iff_ne.mpr c14
            (first | rw [c14b0] | (simp only [i64_w, i32_w]; rw [c14b0]) | skip)
            by_cases c19 : (Int.tmod a1 4) = 1
            · rw [if_pos c19] at H
              have c19b0 : ((Int.tmod a1 4) == 1) = true := beq_iff_eq.mpr c19
              have c19b1 : ((Int.tmod a1 4) != 1) = false := bne_eq_false_iff_eq.mpr c19
              clear c19
              replace H := Option.bind_eq_some_iff.mp H
              obtain ⟨⟨t869, t870, t871⟩, A200, H⟩ := H
              replace H : ((wire_AppendInt.f (⟨#[]⟩ : ByteArray) t869).bind fun t872 => (dasdlaw01_WireStrict.j1 kj2 a0 t872 t870 t871)) = some r := H
              have A20 := Aside0.mk A200
              clear A200
              replace H := Option.bind_eq_some_iff.mp H
              obtain ⟨t872, A210, H⟩ := H
              replace H : (dasdlaw01_WireStrict.j1 kj2 a0 t872 t870 t871) = some r := H
              have A21 := Aside0.mk A210
              clear A210
              have H' := Aside0.mk H
              clear H
              go_wp2_with (first | ((with_reducible refine gate_callee (f := 73) rfl ?_); refine goesL_ (some 33) rfl rfl Try.func73 (by kernel_rfl) rfl #[.pointer (some ⟨g864, 0, none⟩)] rfl (by (try simp only [List.map_toArray, List.map_cons, List.map_nil]); first | done | rfl | (simp only [List.length_drop, List.length_take]; rfl)) ?_; (with_reducible refine (wire_Reader_Int.calls g864 t862 t863 t869 t870 t871 w _ ?side1 ?side2 A20.out).mono ?_); (case side1 => repeat (first | (with_reducible first | exact HI864.out | apply IsS110.alloc | apply IsS110.drewN | apply IsS110.drew | apply IsS110.set_0 | apply IsS110.set_1) | exact HI864.out)); (case side2 => repeat (first | (with_reducible first | exact HB.out | apply below_alloc | apply pw_below_drewN | apply below_drew1 | refine below_set ?_ (IsS110.ge HI864.out)) | exact HB.out)); rintro e w22 ⟨rfl, hi, hb, hk⟩; refine ⟨_, rfl, ?_⟩; have n0_ := Aside0.mk (hb); have n1_ := Aside0.mk (hi); clear HB; clear HI864; have HB := n0_; have HI864 := n1_; clear n0_ n1_; (try clear hb); (try clear hb2); (try clear hk); (try clear hi)) | ((with_reducible refine gate_callee (f := 28) rfl ?_); refine goesL_ (some 34) rfl rfl Try.func28 (by kernel_rfl) rfl #[.string (⟨#[]⟩ : ByteArray), .int .i64 t869] rfl (by (try simp only [List.map_toArray, List.map_cons, List.map_nil]); first | done | rfl | (simp only [List.length_drop, List.length_take]; rfl)) ?_; (with_reducible refine (wire_AppendInt.calls (⟨#[]⟩ : ByteArray) t869 t872 _ A21.out).mono ?_); rintro e w23 ⟨rfl, hb⟩; refine ⟨_, rfl, ?_⟩; have n0_ := Aside0.mk (IsS110.below (by repeat (first | (with_reducible first | exact HI864.out | apply IsS110.alloc | apply IsS110.drewN | apply IsS110.drew | apply IsS110.set_0 | apply IsS110.set_1) | exact HI864.out)) hb); have n1_ := Aside0.mk (below_step (by repeat (first | (with_reducible first | exact HB.out | apply below_alloc | apply pw_below_drewN | apply below_drew1 | refine below_set ?_ (IsS110.ge HI864.out)) | exact HB.out)) hb); clear HI864; clear HB; have HI864 := n0_; have HB := n1_; clear n0_ n1_; (try clear hb); (try clear hb2); (try clear hk); (try clear hi)))
              go_meet
              case rel => exact ⟨_, (t872), (t870), (t871), (by first | rfl | (simp; done) | (simp [*]; done)), H', ⟨by have := HJ2.out; first | omega | exact Nat.le_refl _⟩, ⟨by repeat (first | (with_reducible first | exact HI864.out | apply IsS110.alloc | apply IsS110.drewN | apply IsS110.drew | apply IsS110.set_0 | apply IsS110.set_1) | exact HI864.out)⟩, ⟨by repeat (first | (with_reducible first | exact HB.out | apply below_alloc | apply pw_below_drewN | apply below_drew1 | refine below_set ?_ (IsS110.ge HI864.out)) | exact HB.out)⟩⟩
            · rw [if_neg c19] at H
              have c19b0 : ((Int.tmod a1 4) == 1) = false := beq_eq_false_iff_ne.mpr c19
              have c19b1 : ((Int.tmod a1 4) != 1) = true := bne_iff_ne.mpr c19
              by_cases c24 : (Int.tmod a1 4) = 2
              · rw [if_pos c24] at H
                have c24b0 : ((Int.tmod a1 4) == 2) = true := beq_iff_eq.mpr c24
                have c24b1 : ((Int.tmod a1 4) != 2) = false := bne_eq_false_iff_eq.mpr c24
                clear c24
                replace H := Option.bind_eq_some_iff.mp H
                obtain ⟨⟨t873, t874, t875⟩, A250, H⟩ := H
                replace H : ((wire_AppendBool.f (⟨#[]⟩ : ByteArray) t873).bind fun t876 => (dasdlaw01_WireStrict.j1 kj2 a0 t876 t874 t875)) = some r := H
                have A25 := Aside0.mk A250
                clear A250
                replace H := Option.bind_eq_some_iff.mp H
                obtain ⟨t876, A260, H⟩ := H
                replace H : (dasdlaw01_WireStrict.j1 kj2 a0 t876 t874 t875) = some r := H
                have A26 := Aside0.mk A260
                clear A260
                have H' := Aside0.mk H
                clear H
                go_wp2_with (first | ((with_reducible refine gate_callee (f := 75) rfl ?_); refine goesL_ (some 38) rfl rfl Try.func75 (by kernel_rfl) rfl #[.pointer (some ⟨g864, 0, none⟩)] rfl (by (try simp only [List.map_toArray, List.map_cons, List.map_nil]); first | done | rfl | (simp only [List.length_drop, List.length_take]; rfl)) ?_; (with_reducible refine (wire_Reader_Bool.calls g864 t862 t863 t873 t874 t875 w _ ?side1 ?side2 A25.out).mono ?_); (case side1 => repeat (first | (with_reducible first | exact HI864.out | apply IsS110.alloc | apply IsS110.drewN | apply IsS110.drew | apply IsS110.set_0 | apply IsS110.set_1) | exact HI864.out)); (case side2 => repeat (first | (with_reducible first | exact HB.out | apply below_alloc | apply pw_below_drewN | apply below_drew1 | refine below_set ?_ (IsS110.ge HI864.out)) | exact HB.out)); rintro e w27 ⟨rfl, hi, hb, hk⟩; refine ⟨_, rfl, ?_⟩; have n0_ := Aside0.mk (hb); have n1_ := Aside0.mk (hi); clear HB; clear HI864; have HB := n0_; have HI864 := n1_; clear n0_ n1_; (try clear hb); (try clear hb2); (try clear hk); (try clear hi)) | ((with_reducible refine gate_callee (f := 30) rfl ?_); refine goesL_ (some 39) rfl rfl Try.func30 (by kernel_rfl) rfl #[.string (⟨#[]⟩ : ByteArray), .bool t873] rfl (by (try simp only [List.map_toArray, List.map_cons, List.map_nil]); first | done | rfl | (simp only [List.length_drop, List.length_take]; rfl)) ?_; (with_reducible refine (wire_AppendBool.calls (⟨#[]⟩ : ByteArray) t873 t876 _ A26.out).mono ?_); rintro e w' ⟨rfl, ⟨nd, rfl⟩⟩; refine ⟨_, rfl, ?_⟩))
                go_meet
                case rel => exact ⟨_, (t876), (t874), (t875), (by first | rfl | (simp; done) | (simp [*]; done)), H', ⟨by have := HJ2.out; first | omega | exact Nat.le_refl _⟩, ⟨by repeat (first | (with_reducible first | exact HI864.out | apply IsS110.alloc | apply IsS110.drewN | apply IsS110.drew | apply IsS110.set_0 | apply IsS110.set_1) | exact HI864.out)⟩, ⟨by repeat (first | (with_reducible first | exact HB.out | apply below_alloc | apply pw_below_drewN | apply below_drew1 | refine below_set ?_ (IsS110.ge HI864.out)) | exact HB.out)⟩⟩
              · rw [if_neg c24] at H
                have c24b0 : ((Int.tmod a1 4) == 2) = false := beq_eq_false_iff_ne.mpr c24
                have c24b1 : ((Int.tmod a1 4) != 2) = true := bne_iff_ne.mpr c24
                replace H := Option.bind_eq_some_iff.mp H
                obtain ⟨⟨t877, t878, t879⟩, A280, H⟩ := H
                replace H : ((wire_AppendText.f (⟨#[]⟩ : ByteArray) t877).bind fun t880 => (dasdlaw01_WireStrict.j1 kj2 a0 t880 t878 t879)) = some r := H
                have A28 := Aside0.mk A280
                clear A280
                replace H := Option.bind_eq_some_iff.mp H
                obtain ⟨t880, A290, H⟩ := H
                replace H : (dasdlaw01_WireStrict.j1 kj2 a0 t880 t878 t879) = some r := H
                have A29 := Aside0.mk A290
                clear A290
                have H' := Aside0.mk H
                clear H
                go_wp2_with (first | ((with_reducible refine gate_callee (f := 64) rfl ?_); refine goesL_ (some 23) rfl rfl Try.func64 (by kernel_rfl) rfl #[.pointer (some ⟨g864, 0, none⟩), .int .i64 300] rfl (by (try simp only [List.map_toArray, List.map_cons, List.map_nil]); first | done | rfl | (simp only [List.length_drop, List.length_take]; rfl)) ?_; (with_reducible refine (wire_Reader_Text.calls g864 t862 t863 300 t877 t878 t879 w _ ?side1 ?side2 A28.out).mono ?_); (case side1 => repeat (first | (with_reducible first | exact HI864.out | apply IsS110.alloc | apply IsS110.drewN | apply IsS110.drew | apply IsS110.set_0 | apply IsS110.set_1) | exact HI864.out)); (case side2 => repeat (first | (with_reducible first | exact HB.out | apply below_alloc | apply pw_below_drewN | apply below_drew1 | refine below_set ?_ (IsS110.ge HI864.out)) | exact HB.out)); rintro e w30 ⟨rfl, hi, hb, hk⟩; refine ⟨_, rfl, ?_⟩; have n0_ := Aside0.mk (hb); have n1_ := Aside0.mk (hi); clear HB; clear HI864; have HB := n0_; have HI864 := n1_; clear n0_ n1_; (try clear hb); (try clear hb2); (try clear hk); (try clear hi)) | ((with_reducible refine gate_callee (f := 32) rfl ?_); refine goesL_ (some 24) rfl rfl Try.func32 (by kernel_rfl) rfl #[.string (⟨#[]⟩ : ByteArray), .string t877] rfl (by (try simp only [List.map_toArray, List.map_cons, List.map_nil]); first | done | rfl | (simp only [List.length_drop, List.length_take]; rfl)) ?_; (with_reducible refine (wire_AppendText.calls (⟨#[]⟩ : ByteArray) t877 t880 _ A29.out).mono ?_); rintro e w31 ⟨rfl, hb⟩; refine ⟨_, rfl, ?_⟩; have n0_ := Aside0.mk (IsS110.below (by repeat (first | (with_reducible first | exact HI864.out | apply IsS110.alloc | apply IsS110.drewN | apply IsS110.drew | apply IsS110.set_0 | apply IsS110.set_1) | exact HI864.out)) hb); have n1_ := Aside0.mk (below_step (by repeat (first | (with_reducible first | exact HB.out | apply below_alloc | apply pw_below_drewN | apply below_drew1 | refine below_set ?_ (IsS110.ge HI864.out)) | exact HB.out)) hb); clear HI864; clear HB; have HI864 := n0_; have HB := n1_; clear n0_ n1_; (try clear hb); (try clear hb2); (try clear hk); (try clear hi)))
                go_meet
                case rel => exact ⟨_, (t880), (t878), (t879), (by first | rfl | (simp; done) | (simp [*]; done)), H', ⟨by have := HJ2.out; first | omega | exact Nat.le_refl _⟩, ⟨by repeat (first | (with_reducible first | exact HI864.out | apply IsS110.alloc | apply IsS110.drewN | apply IsS110.drew | apply IsS110.set_0 | apply IsS110.set_1) | exact HI864.out)⟩, ⟨by repeat (first | (with_reducible first | exact HB.out | apply below_alloc | apply pw_below_drewN | apply below_drew1 | refine below_set ?_ (IsS110.ge HI864.out)) | exact HB.out)⟩⟩
        case rest =>
          clear HC12
          try clear c1
          try clear c2
          try clear p2
          try clear c3
          try clear c5
          try clear c6
          try clear c7
          try clear c8
          try clear c14
          try clear c14b0
          try clear c14b1
          try clear c18
          try clear c19
          try clear c19b0
          try clear c19b1
          try clear c24
          try clear c24b0
          try clear c24b1
          try clear c25
          try clear c26
          try clear c28
          try clear c30
          try clear p2
          obtain ⟨kq, x6_11, x865000_11, x865001_11, rfl, HA, HJ11, HI864, HB⟩ := hcut
          cases kq with
          | zero => exact absurd HA.out (by simp [dasdlaw01_WireStrict.j1])
          | succ kj11 =>
            have H := HA.out
            clear HA
            simp only [dasdlaw01_WireStrict.j1] at H
            replace H := Option.bind_eq_some_iff.mp H
            obtain ⟨⟨t881, t882, t883⟩, A320, H⟩ := H
            replace H : (if t881 = 0 then (dasdlaw01_WireStrict.j2 kj11 a0 x6_11 false t882 t883) else ((wire_Reader_Left.f t882 t883).bind fun bt884 => (dasdlaw01_WireStrict.j2 kj11 a0 x6_11 (bt884.1 == 0) bt884.2.1 bt884.2.2))) = some r := H
            have A32 := Aside0.mk A320
            clear A320
            have HC33 := Aside0.mk H
            clear H
            go_upto_region 16 with (first | ((with_reducible refine gate_callee (f := 65) rfl ?_); refine goesL_ (some 41) rfl rfl Try.func65 (by kernel_rfl) rfl #[.pointer (some ⟨g864, 0, none⟩)] rfl (by (try simp only [List.map_toArray, List.map_cons, List.map_nil]); first | done | rfl | (simp only [List.length_drop, List.length_take]; rfl)) ?_; (with_reducible refine (wire_Reader_End.calls g864 x865000_11 x865001_11 t881 t882 t883 w _ ?side1 ?side2 A32.out).mono ?_); (case side1 => repeat (first | (with_reducible first | exact HI864.out | apply IsS110.alloc | apply IsS110.drewN | apply IsS110.drew | apply IsS110.set_0 | apply IsS110.set_1) | exact HI864.out)); (case side2 => repeat (first | (with_reducible first | exact HB.out | apply below_alloc | apply pw_below_drewN | apply below_drew1 | refine below_set ?_ (IsS110.ge HI864.out)) | exact HB.out)); rintro e w34 ⟨rfl, hi, hb, hk⟩; refine ⟨_, rfl, ?_⟩; have n0_ := Aside0.mk (hb); have n1_ := Aside0.mk (hi); clear HB; clear HI864; have HB := n0_; have HI864 := n1_; clear n0_ n1_; (try clear hb); (try clear hb2); (try clear hk); (try clear hi)))
            (try simp only [Act.put, List.setIfInBounds_toArray, List.set_cons_zero, List.set_cons_succ])
            go_cut [48] (fun v48 wc => ∃ (kq : Nat) (x48_32 : Bool) (x865000_32 : ByteArray) (x865001_32 : Int), v48 = .bool x48_32 ∧ Aside0 (dasdlaw01_WireStrict.j2 kq a0 x6_11 x48_32 x865000_32 x865001_32 = some r) ∧ Aside0 (kq ≤ kj11) ∧ Aside0 (IsS110 w wc g864 x865000_32 x865001_32) ∧ Aside0 (Below w.heap.size w wc))
            case first =>
              have H := HC33.out
              clear HC33
              by_cases c35 : t881 = 0
              · rw [if_pos c35] at H
                have c35b0 : (t881 == 0) = true := beq_iff_eq.mpr c35
                have c35b1 : (t881 != 0) = false := bne_eq_false_iff_eq.mpr c35
                clear c35
                (first | rw [c35b0] | (simp only [i64_w, i32_w]; rw [c35b0]) | skip)
                have H' := Aside0.mk H
                clear H
                go_wp2
                go_meet
                case rel => exact ⟨_, (false), (t882), (t883), (by first | rfl | (simp; done) | (simp [*]; done)), H', ⟨by have := HJ2.out; have := HJ11.out; first | omega | exact Nat.le_refl _⟩, ⟨by repeat (first | (with_reducible first | exact HI864.out | apply IsS110.alloc | apply IsS110.drewN | apply IsS110.drew | apply IsS110.set_0 | apply IsS110.set_1) | exact HI864.out)⟩, ⟨by repeat (first | (with_reducible first | exact HB.out | apply below_alloc | apply pw_below_drewN | apply below_drew1 | refine below_set ?_ (IsS110.ge HI864.out)) | exact HB.out)⟩⟩
              · rw [if_neg c35] at H
                have c35b0 : (t881 == 0) = false := beq_eq_false_iff_ne.mpr c35
                have c35b1 : (t881 != 0) = true := bne_iff_ne.mpr c35
                (first | rw [c35b0] | (simp only [i64_w, i32_w]; rw [c35b0]) | skip)
                replace H := Option.bind_eq_some_iff.mp H
                obtain ⟨⟨t884, t885, t886⟩, A360, H⟩ := H
                replace H : (dasdlaw01_WireStrict.j2 kj11 a0 x6_11 (t884 == 0) t885 t886) = some r := H
                have A36 := Aside0.mk A360
                clear A360
                have H' := Aside0.mk H
                clear H
                go_wp2_with (first | (go_at_call 78; (with_reducible refine (wire_Reader_Left.calls g864 t882 t883 t884 t885 t886 w _ ?side1 ?side2 A36.out).mono ?_); (case side1 => repeat (first | (with_reducible first | exact HI864.out | apply IsS110.alloc | apply IsS110.drewN | apply IsS110.drew | apply IsS110.set_0 | apply IsS110.set_1) | exact HI864.out)); (case side2 => repeat (first | (with_reducible first | exact HB.out | apply below_alloc | apply pw_below_drewN | apply below_drew1 | refine below_set ?_ (IsS110.ge HI864.out)) | exact HB.out)); rintro e w37 ⟨rfl, hi, hb, hk⟩; have n0_ := Aside0.mk (hb); have n1_ := Aside0.mk (hi); clear HB; clear HI864; have HB := n0_; have HI864 := n1_; clear n0_ n1_; (try clear hb); (try clear hb2); (try clear hk); (try clear hi)))
                go_meet
                case rel => exact ⟨_, ((t884 == 0)), (t885), (t886), (by first | rfl | (simp; done) | (simp [*]; done)), H', ⟨by have := HJ2.out; have := HJ11.out; first | omega | exact Nat.le_refl _⟩, ⟨by repeat (first | (with_reducible first | exact HI864.out | apply IsS110.alloc | apply IsS110.drewN | apply IsS110.drew | apply IsS110.set_0 | apply IsS110.set_1) | exact HI864.out)⟩, ⟨by repeat (first | (with_reducible first | exact HB.out | apply below_alloc | apply pw_below_drewN | apply below_drew1 | refine below_set ?_ (IsS110.ge HI864.out)) | exact HB.out)⟩⟩
            case rest =>
              clear HC33
              try clear c1
              try clear c2
              try clear p2
              try clear c3
              try clear c5
              try clear c6
              try clear c7
              try clear c8
              try clear c14
              try clear c14b0
              try clear c14b1
              try clear c18
              try clear c19
              try clear c19b0
              try clear c19b1
              try clear c24
              try clear c24b0
              try clear c24b1
              try clear c25
              try clear c26
              try clear c28
              try clear c30
              try clear c32
              try clear c35
              try clear c35b0
              try clear c35b1
              try clear p2
              obtain ⟨kq, x48_32, x865000_32, x865001_32, rfl, HA, HJ32, HI864, HB⟩ := hcut
              cases kq with
              | zero => exact absurd HA.out (by simp [dasdlaw01_WireStrict.j2])
              | succ kj32 =>
                have H := HA.out
                clear HA
                simp only [dasdlaw01_WireStrict.j2] at H
                by_cases c38 : x48_32 = true
                · subst c38
                  have H1 : ((wire_Reader_Rest.f x865000_32 x865001_32).bind fun bt887 => (some (bt887.1.toList == ([] : List UInt8)))) = some r := by rw [if_pos rfl] at H; exact H
                  clear H
                  have H := H1
                  clear H1
                  replace H := Option.bind_eq_some_iff.mp H
                  obtain ⟨⟨t887, t888, t889⟩, A390, H⟩ := H
                  replace H : (some (t887.toList == ([] : List UInt8))) = some r := H
                  have A39 := Aside0.mk A390
                  clear A390
                  obtain rfl := Option.some.inj H
                  go_wp2_with (first | ((with_reducible refine gate_callee (f := 79) rfl ?_); refine goesL_ (some 50) rfl rfl Try.func79 (by kernel_rfl) rfl #[.pointer (some ⟨g864, 0, none⟩)] rfl (by (try simp only [List.map_toArray, List.map_cons, List.map_nil]); first | done | rfl | (simp only [List.length_drop, List.length_take]; rfl)) ?_; (with_reducible refine (wire_Reader_Rest.calls g864 x865000_32 x865001_32 t887 t888 t889 w _ ?side1 ?side2 A39.out).mono ?_); (case side1 => repeat (first | (with_reducible first | exact HI864.out | apply IsS110.alloc | apply IsS110.drewN | apply IsS110.drew | apply IsS110.set_0 | apply IsS110.set_1) | exact HI864.out)); (case side2 => repeat (first | (with_reducible first | exact HB.out | apply below_alloc | apply pw_below_drewN | apply below_drew1 | refine below_set ?_ (IsS110.ge HI864.out)) | exact HB.out)); rintro e w40 ⟨rfl, hi, hb, hk⟩; refine ⟨_, rfl, ?_⟩; have n0_ := Aside0.mk (hb); have n1_ := Aside0.mk (hi); clear HB; clear HI864; have HB := n0_; have HI864 := n1_; clear n0_ n1_; (try clear hb); (try clear hb2); (try clear hk); (try clear hi)))
                  go_ret
                  exact ⟨by first | rfl | (simp [errW_none, errW_some] <;> rfl) | (simp [*, errW_none, errW_some] <;> rfl), by repeat (first | (with_reducible first | exact HB.out | apply below_alloc | apply pw_below_drewN | apply below_drew1 | refine below_set ?_ (IsS110.ge HI864.out)) | exact HB.out)⟩
                · replace c38 := Bool.eq_false_iff.mpr c38
                  subst c38
                  have H1 : ((wire_Reader_Rest.f x865000_32 x865001_32).bind fun bt890 => (if x6_11.size + bt890.1.size ≤ 9223372036854775807 then (if (x6_11 ++ bt890.1).toList = a0.toList then ((wire_Reader_Left.f bt890.2.1 bt890.2.2).bind fun bt893 => ((wire_Reader_Rest.f bt893.2.1 bt893.2.2).bind fun bt896 => (some (bt893.1 == (bt896.1.size : Int))))) else (some false)) else (none))) = some r := by rw [if_neg (show ¬ (false = true) by decide)] at H; exact H
                  clear H
                  have H := H1
                  clear H1
                  replace H := Option.bind_eq_some_iff.mp H
                  obtain ⟨⟨t890, t891, t892⟩, A410, H⟩ := H
                  replace H : (if x6_11.size + t890.size ≤ 9223372036854775807 then (if (x6_11 ++ t890).toList = a0.toList then ((wire_Reader_Left.f t891 t892).bind fun bt893 => ((wire_Reader_Rest.f bt893.2.1 bt893.2.2).bind fun bt896 => (some (bt893.1 == (bt896.1.size : Int))))) else (some false)) else (none)) = some r := H
                  have A41 := Aside0.mk A410
                  clear A410
                  by_cases c42 : x6_11.size + t890.size ≤ 9223372036854775807
                  · rw [if_pos c42] at H
                    have c42b0 := eq_true c42
                    have c42b1 : decide (x6_11.size + t890.size ≤ 9223372036854775807) = true := decide_eq_true c42
                    try have c42b2 : (9223372036854775807 < x6_11.size + t890.size) = False := eq_false (Nat.not_lt.2 c42)
                    by_cases c43 : (x6_11 ++ t890).toList = a0.toList
                    · rw [if_pos c43] at H
                      have c43b0 : ((x6_11 ++ t890).toList == a0.toList) = true := beq_iff_eq.mpr c43
                      have c43b1 : ((x6_11 ++ t890).toList != a0.toList) = false := bne_eq_false_iff_eq.mpr c43
                      clear c43
                      replace H := Option.bind_eq_some_iff.mp H
                      obtain ⟨⟨t893, t894, t895⟩, A440, H⟩ := H
                      replace H : ((wire_Reader_Rest.f t894 t895).bind fun bt896 => (some (t893 == (bt896.1.size : Int)))) = some r := H
                      have A44 := Aside0.mk A440
                      clear A440
                      replace H := Option.bind_eq_some_iff.mp H
                      obtain ⟨⟨t896, t897, t898⟩, A450, H⟩ := H
                      replace H : (some (t893 == (t896.size : Int))) = some r := H
                      have A45 := Aside0.mk A450
                      clear A450
                      obtain rfl := Option.some.inj H
                      go_wp2_with (first | ((with_reducible refine gate_callee (f := 79) rfl ?_); refine goesL_ (some 54) rfl rfl Try.func79 (by kernel_rfl) rfl #[.pointer (some ⟨g864, 0, none⟩)] rfl (by (try simp only [List.map_toArray, List.map_cons, List.map_nil]); first | done | rfl | (simp only [List.length_drop, List.length_take]; rfl)) ?_; (with_reducible refine (wire_Reader_Rest.calls g864 x865000_32 x865001_32 t890 t891 t892 w _ ?side1 ?side2 A41.out).mono ?_); (case side1 => repeat (first | (with_reducible first | exact HI864.out | apply IsS110.alloc | apply IsS110.drewN | apply IsS110.drew | apply IsS110.set_0 | apply IsS110.set_1) | exact HI864.out)); (case side2 => repeat (first | (with_reducible first | exact HB.out | apply below_alloc | apply pw_below_drewN | apply below_drew1 | refine below_set ?_ (IsS110.ge HI864.out)) | exact HB.out)); rintro e w46 ⟨rfl, hi, hb, hk⟩; refine ⟨_, rfl, ?_⟩; have n0_ := Aside0.mk (hb); have n1_ := Aside0.mk (hi); clear HB; clear HI864; have HB := n0_; have HI864 := n1_; clear n0_ n1_; (try clear hb); (try clear hb2); (try clear hk); (try clear hi)) | (go_at_call 78; (with_reducible refine (wire_Reader_Left.calls g864 t891 t892 t893 t894 t895 w _ ?side1 ?side2 A44.out).mono ?_); (case side1 => repeat (first | (with_reducible first | exact HI864.out | apply IsS110.alloc | apply IsS110.drewN | apply IsS110.drew | apply IsS110.set_0 | apply IsS110.set_1) | exact HI864.out)); (case side2 => repeat (first | (with_reducible first | exact HB.out | apply below_alloc | apply pw_below_drewN | apply below_drew1 | refine below_set ?_ (IsS110.ge HI864.out)) | exact HB.out)); rintro e w47 ⟨rfl, hi, hb, hk⟩; have n0_ := Aside0.mk (hb); have n1_ := Aside0.mk (hi); clear HB; clear HI864; have HB := n0_; have HI864 := n1_; clear n0_ n1_; (try clear hb); (try clear hb2); (try clear hk); (try clear hi)) | (go_at_call 79; (with_reducible refine (wire_Reader_Rest.calls g864 t894 t895 t896 t897 t898 w _ ?side1 ?side2 A45.out).mono ?_); (case side1 => repeat (first | (with_reducible first | exact HI864.out | apply IsS110.alloc | apply IsS110.drewN | apply IsS110.drew | apply IsS110.set_0 | apply IsS110.set_1) | exact HI864.out)); (case side2 => repeat (first | (with_reducible first | exact HB.out | apply below_alloc | apply pw_below_drewN | apply below_drew1 | refine below_set ?_ (IsS110.ge HI864.out)) | exact HB.out)); rintro e w48 ⟨rfl, hi, hb, hk⟩; have n0_ := Aside0.mk (hb); have n1_ := Aside0.mk (hi); clear HB; clear HI864; have HB := n0_; have HI864 := n1_; clear n0_ n1_; (try clear hb); (try clear hb2); (try clear hk); (try clear hi)))
                      go_ret
                      exact ⟨by first | rfl | (simp [errW_none, errW_some] <;> rfl) | (simp [*, errW_none, errW_some] <;> rfl), by repeat (first | (with_reducible first | exact HB.out | apply below_alloc | apply pw_below_drewN | apply below_drew1 | refine below_set ?_ (IsS110.ge HI864.out)) | exact HB.out)⟩
                    · rw [if_neg c43] at H
                      have c43b0 : ((x6_11 ++ t890).toList == a0.toList) = false := beq_eq_false_iff_ne.mpr c43
                      have c43b1 : ((x6_11 ++ t890).toList != a0.toList) = true := bne_iff_ne.mpr c43
                      obtain rfl := Option.some.inj H
                      go_wp2_with (first | ((with_reducible refine gate_callee (f := 79) rfl ?_); refine goesL_ (some 54) rfl rfl Try.func79 (by kernel_rfl) rfl #[.pointer (some ⟨g864, 0, none⟩)] rfl (by (try simp only [List.map_toArray, List.map_cons, List.map_nil]); first | done | rfl | (simp only [List.length_drop, List.length_take]; rfl)) ?_; (with_reducible refine (wire_Reader_Rest.calls g864 x865000_32 x865001_32 t890 t891 t892 w _ ?side1 ?side2 A41.out).mono ?_); (case side1 => repeat (first | (with_reducible first | exact HI864.out | apply IsS110.alloc | apply IsS110.drewN | apply IsS110.drew | apply IsS110.set_0 | apply IsS110.set_1) | exact HI864.out)); (case side2 => repeat (first | (with_reducible first | exact HB.out | apply below_alloc | apply pw_below_drewN | apply below_drew1 | refine below_set ?_ (IsS110.ge HI864.out)) | exact HB.out)); rintro e w49 ⟨rfl, hi, hb, hk⟩; refine ⟨_, rfl, ?_⟩; have n0_ := Aside0.mk (hb); have n1_ := Aside0.mk (hi); clear HB; clear HI864; have HB := n0_; have HI864 := n1_; clear n0_ n1_; (try clear hb); (try clear hb2); (try clear hk); (try clear hi)))
                      go_ret
                      exact ⟨by first | rfl | (simp [errW_none, errW_some] <;> rfl) | (simp [*, errW_none, errW_some] <;> rfl), by repeat (first | (with_reducible first | exact HB.out | apply below_alloc | apply pw_below_drewN | apply below_drew1 | refine below_set ?_ (IsS110.ge HI864.out)) | exact HB.out)⟩
                  · rw [if_neg c42] at H
                    exact absurd H (by simp)

/-- THE ONE PURE STATEMENT of dasdlaw01_WireStrict: yours. -/
def dasdlaw01_WireStrict.Pure : Prop := ∀ (a0 : ByteArray) (a1 : Int), a0.size ≤ 140737488351232 → (Lit.int .u8 a1).wf = true → ∃ k, dasdlaw01_WireStrict.f k a0 a1 = some true
theorem dasdlaw01_WireStrict.walk (P : dasdlaw01_WireStrict.Pure) (a0 : ByteArray) (a1 : Int) (w : World) (w0 : a0.size ≤ 140737488351232) (w1 : (Lit.int .u8 a1).wf = true) :
    Calls Try.prog 18 #[.string a0, .int .u8 a1] w fun e w' => e = .returned (.bool true) ∧ Below w.heap.size w w' := by
  obtain ⟨k, h⟩ := P a0 a1 w0 w1
  refine (dasdlaw01_WireStrict.calls k a0 a1 true w h).mono ?_
  rintro e w' ⟨rfl, hd⟩
  exact ⟨rfl, hd⟩

end Go.Proofs.Ytegefemkmdlmaaa.P
