-- Printed by a program of this session (hand.py) out of the translation. Lean checks it.
import Derived.Test.YtegefemkmdlmaaaF0
import Derived.Test.YtegefemkmdlmaaaGa
import Derived.Test.YtegefemkmdlmaaaF83
namespace Go.Proofs.Ytegefemkmdlmaaa.P
open Go.RowKit Go.Proofs.YtegefemkmdlmaaaW.PrintWords Go.Proofs.YtegefemkmdlmaaaW.PrintLast Go.Proofs.YtegefemkmdlmaaaW.PrintMore
attribute [local go_sem] max2_int min2_int max_two min_two max_three min_three max_four min_four   -- for this text's walks alone
set_option linter.unusedVariables false
set_option linter.unusedSimpArgs false

/-! ### dasdlaw01_WireReturns: function 17 -/
mutual
def dasdlaw01_WireReturns.j0 : Nat → List (S91) → Bool → Option (Bool)
  | 0, _, _ => none
  | k + 1, x0, x16 => if x16 = true then ((dasdlaw01_awake.f k).bind fun t827 => (some t827)) else (dasdlaw01_WireReturns.l0 k x0 (⟨#[]⟩ : ByteArray) x0 (x0.length : Int) 0)
def dasdlaw01_WireReturns.l0 : Nat → List (S91) → ByteArray → List (S91) → Int → Int → Option (Bool)
  | 0, _, _, _, _, _ => none
  | k + 1, x0, x3, x18, x19, x20 => if x20 < x19 then (if 0 ≤ x20 then (if x20 < (x18.length : Int) then (if (Int.tmod ((rd_T91 x18 x20).f0) 4) = 0 then ((wire_AppendNumber.f x3 ((rd_T91 x18 x20).f1)).bind fun t830 => (dasdlaw01_WireReturns.l0 k x0 t830 x18 x19 (wrap64 (x20 + 1)))) else (if (Int.tmod ((rd_T91 x18 x20).f0) 4) = 1 then ((wire_AppendInt.f x3 ((rd_T91 x18 x20).f2)).bind fun t831 => (dasdlaw01_WireReturns.l0 k x0 t831 x18 x19 (wrap64 (x20 + 1)))) else (if (Int.tmod ((rd_T91 x18 x20).f0) 4) = 2 then ((wire_AppendBool.f x3 ((rd_T91 x18 x20).f3)).bind fun t832 => (dasdlaw01_WireReturns.l0 k x0 t832 x18 x19 (wrap64 (x20 + 1)))) else ((wire_AppendText.f x3 ((rd_T91 x18 x20).f4)).bind fun t833 => (dasdlaw01_WireReturns.l0 k x0 t833 x18 x19 (wrap64 (x20 + 1))))))) else (none)) else (none)) else ((wire_NewReader.f x3).bind fun bt834 => (dasdlaw01_WireReturns.l1 k x0 (x0.length : Int) 0 bt834.1 bt834.2))
def dasdlaw01_WireReturns.l1 : Nat → List (S91) → Int → Int → ByteArray → Int → Option (Bool)
  | 0, _, _, _, _, _ => none
  | k + 1, x54, x55, x56, x837000, x837001 => if x56 < x55 then (if 0 ≤ x56 then (if x56 < (x54.length : Int) then (if (Int.tmod ((rd_T91 x54 x56).f0) 4) = 0 then ((wire_Reader_Number.f x837000 x837001).bind fun bt848 => (if (bt848.1 = ((rd_T91 x54 x56).f1)) then (dasdlaw01_WireReturns.l1 k x54 x55 (wrap64 (x56 + 1)) bt848.2.1 bt848.2.2) else (some false))) else (if (Int.tmod ((rd_T91 x54 x56).f0) 4) = 1 then ((wire_Reader_Int.f x837000 x837001).bind fun bt851 => (if (bt851.1 = ((rd_T91 x54 x56).f2)) then (dasdlaw01_WireReturns.l1 k x54 x55 (wrap64 (x56 + 1)) bt851.2.1 bt851.2.2) else (some false))) else (if (Int.tmod ((rd_T91 x54 x56).f0) 4) = 2 then ((wire_Reader_Bool.f x837000 x837001).bind fun bt854 => (if ((bt854.1 == ((rd_T91 x54 x56).f3)) = true) then (dasdlaw01_WireReturns.l1 k x54 x55 (wrap64 (x56 + 1)) bt854.2.1 bt854.2.2) else (some false))) else ((wire_Reader_Text.f x837000 x837001 (((rd_T91 x54 x56).f4).size : Int)).bind fun bt857 => (if (bt857.1.toList = ((rd_T91 x54 x56).f4).toList) then (dasdlaw01_WireReturns.l1 k x54 x55 (wrap64 (x56 + 1)) bt857.2.1 bt857.2.2) else (some false)))))) else (none)) else (none)) else ((wire_Reader_End.f x837000 x837001).bind fun bt837 => (if bt837.1 = 0 then ((wire_Reader_Left.f bt837.2.1 bt837.2.2).bind fun bt840 => (if bt840.1 = 0 then ((wire_Reader_Rest.f bt840.2.1 bt840.2.2).bind fun bt843 => (some (bt843.1.toList == ([] : List UInt8)))) else (some false))) else (some false)))
end
def dasdlaw01_WireReturns.f (k : Nat) (l0 : List (S91)) : Option (Bool) := (dasdlaw01_awake.f k).bind fun t825 => (if t825 = true then ((dasdref01_Few.f k l0).bind fun t826 => (dasdlaw01_WireReturns.j0 k l0 (!t826))) else (dasdlaw01_WireReturns.j0 k l0 true))
theorem dasdlaw01_WireReturns.mono_l : ∀ k, (∀ y0 y1, LeO (dasdlaw01_WireReturns.j0 k y0 y1) (dasdlaw01_WireReturns.j0 (k + 1) y0 y1)) ∧ (∀ y0 y1 y2 y3 y4, LeO (dasdlaw01_WireReturns.l0 k y0 y1 y2 y3 y4) (dasdlaw01_WireReturns.l0 (k + 1) y0 y1 y2 y3 y4)) ∧ (∀ y0 y1 y2 y3 y4, LeO (dasdlaw01_WireReturns.l1 k y0 y1 y2 y3 y4) (dasdlaw01_WireReturns.l1 (k + 1) y0 y1 y2 y3 y4))
  | 0 => ⟨fun _ _ r h => by simp [dasdlaw01_WireReturns.j0] at h, fun _ _ _ _ _ r h => by simp [dasdlaw01_WireReturns.l0] at h, fun _ _ _ _ _ r h => by simp [dasdlaw01_WireReturns.l1] at h⟩
  | k + 1 => by
    obtain ⟨ih0, ih1, ih2⟩ := dasdlaw01_WireReturns.mono_l k
    refine ⟨?_, ?_, ?_⟩
    · intro y0 y1
      unfold dasdlaw01_WireReturns.j0
      repeat' first
      | (with_reducible exact ih0 _ _)
      | (with_reducible exact ih1 _ _ _ _ _)
      | (with_reducible exact ih2 _ _ _ _ _)
      | (with_reducible exact dasdlaw01_awake.mono _)
      | (with_reducible exact dasdref01_Few.mono _ _)
      | (with_reducible exact LeO.refl _)
      | (with_reducible exact LeO.none _)
      | (with_reducible refine LeO.ite ?_ ?_)
      | (with_reducible refine LeO.bind ?_ (fun _ => ?_))
      | exact ih0 _ _
      | exact ih1 _ _ _ _ _
      | exact ih2 _ _ _ _ _
      | exact dasdlaw01_awake.mono _
      | exact dasdref01_Few.mono _ _
      | exact LeO.none _
      | refine LeO.ite ?_ ?_
      | refine LeO.bind ?_ (fun _ => ?_)
    · intro y0 y1 y2 y3 y4
      unfold dasdlaw01_WireReturns.l0
      repeat' first
      | (with_reducible exact ih0 _ _)
      | (with_reducible exact ih1 _ _ _ _ _)
      | (with_reducible exact ih2 _ _ _ _ _)
      | (with_reducible exact dasdlaw01_awake.mono _)
      | (with_reducible exact dasdref01_Few.mono _ _)
      | (with_reducible exact LeO.refl _)
      | (with_reducible exact LeO.none _)
      | (with_reducible refine LeO.ite ?_ ?_)
      | (with_reducible refine LeO.bind ?_ (fun _ => ?_))
      | exact ih0 _ _
      | exact ih1 _ _ _ _ _
      | exact ih2 _ _ _ _ _
      | exact dasdlaw01_awake.mono _
      | exact dasdref01_Few.mono _ _
      | exact LeO.none _
      | refine LeO.ite ?_ ?_
      | refine LeO.bind ?_ (fun _ => ?_)
    · intro y0 y1 y2 y3 y4
      unfold dasdlaw01_WireReturns.l1
      repeat' first
      | (with_reducible exact ih0 _ _)
      | (with_reducible exact ih1 _ _ _ _ _)
      | (with_reducible exact ih2 _ _ _ _ _)
      | (with_reducible exact dasdlaw01_awake.mono _)
      | (with_reducible exact dasdref01_Few.mono _ _)
      | (with_reducible exact LeO.refl _)
      | (with_reducible exact LeO.none _)
      | (with_reducible refine LeO.ite ?_ ?_)
      | (with_reducible refine LeO.bind ?_ (fun _ => ?_))
      | exact ih0 _ _
      | exact ih1 _ _ _ _ _
      | exact ih2 _ _ _ _ _
      | exact dasdlaw01_awake.mono _
      | exact dasdref01_Few.mono _ _
      | exact LeO.none _
      | refine LeO.ite ?_ ?_
      | refine LeO.bind ?_ (fun _ => ?_)
theorem dasdlaw01_WireReturns.mono : ∀ a0 k, LeO (dasdlaw01_WireReturns.f k a0) (dasdlaw01_WireReturns.f (k + 1) a0) := by
  intro a0 k
  obtain ⟨ih0, ih1, ih2⟩ := dasdlaw01_WireReturns.mono_l k
  unfold dasdlaw01_WireReturns.f
  repeat' first
      | (with_reducible exact ih0 _ _)
      | (with_reducible exact ih1 _ _ _ _ _)
      | (with_reducible exact ih2 _ _ _ _ _)
      | (with_reducible exact dasdlaw01_awake.mono _)
      | (with_reducible exact dasdref01_Few.mono _ _)
      | (with_reducible exact LeO.refl _)
      | (with_reducible exact LeO.none _)
      | (with_reducible refine LeO.ite ?_ ?_)
      | (with_reducible refine LeO.bind ?_ (fun _ => ?_))
      | exact ih0 _ _
      | exact ih1 _ _ _ _ _
      | exact ih2 _ _ _ _ _
      | exact dasdlaw01_awake.mono _
      | exact dasdref01_Few.mono _ _
      | exact LeO.none _
      | refine LeO.ite ?_ ?_
      | refine LeO.bind ?_ (fun _ => ?_)
def dasdlaw01_WireReturns.T24 : Bool × List (List Nat × List Nat) := (true, [([], []), ([], []), ([1], [1]), ([2], [2]), ([0, 3], [0, 3]), ([], []), ([5], [5]), ([4, 6], [4, 6]), ([7, 4, 0, 1, 2, 3, 4, 5, 6, 7], [7])])
def dasdlaw01_WireReturns.B24 : List Nat := [0, 0, 2, 6, 15, 0, 32, 127, 255]
theorem dasdlaw01_WireReturns.tab24 : rtab .any (opsOf Try.f17 24) = dasdlaw01_WireReturns.T24 := by kernel_rfl
theorem dasdlaw01_WireReturns.bits24 : waitsOk dasdlaw01_WireReturns.T24.2 dasdlaw01_WireReturns.B24 = true := by kernel_rfl
set_option maxHeartbeats 8000000 in
set_option maxRecDepth 100000 in
theorem dasdlaw01_WireReturns.calls (k : Nat) (A0 : Option Addr) (c0 : Nat) (l0 : List (S91)) (r : Bool) (w : World) (hr0 : Kd.C k91 w A0 l0.length l0) (hc0 : l0.length ≤ c0) (h : dasdlaw01_WireReturns.f k l0 = some r) :
    Calls Try.prog 17 #[.slice A0 l0.length c0] w fun e w' => e = .returned (.bool r) ∧ Below w.heap.size w w' := by
  have hu91 := Try.underlying91
  have HR0 := Aside0.mk hr0
  have HC0 := Aside0.mk hc0
  clear hr0 hc0
  have HB := Aside0.mk (Below.refl w.heap.size w)
  have H : ((dasdlaw01_awake.f k).bind fun t825 => (if t825 = true then ((dasdref01_Few.f k l0).bind fun t826 => (dasdlaw01_WireReturns.j0 k l0 (!t826))) else (dasdlaw01_WireReturns.j0 k l0 true))) = some r := h
  clear h
  have HC2 := Aside0.mk H
  clear H
  go_enter Try.func17, Try.ntmps17
  go_upto_region 1 with (fail)
  go_cut [16] (fun v16 wc => ∃ (kq : Nat) (x16_1 : Bool), v16 = .bool x16_1 ∧ Aside0 (dasdlaw01_WireReturns.j0 kq l0 x16_1 = some r) ∧ Aside0 (kq ≤ k) ∧ Aside0 (Below w.heap.size w wc))
  case first =>
    have H := HC2.out
    clear HC2
    replace H := Option.bind_eq_some_iff.mp H
    obtain ⟨t825, A30, H⟩ := H
    replace H : (if t825 = true then ((dasdref01_Few.f k l0).bind fun t826 => (dasdlaw01_WireReturns.j0 k l0 (!t826))) else (dasdlaw01_WireReturns.j0 k l0 true)) = some r := H
    have A3 := Aside0.mk A30
    clear A30
    by_cases c4 : t825 = true
    · subst c4
      have H1 : ((dasdref01_Few.f k l0).bind fun t826 => (dasdlaw01_WireReturns.j0 k l0 (!t826))) = some r := by rw [if_pos rfl] at H; exact H
      clear H
      have H := H1
      clear H1
      replace H := Option.bind_eq_some_iff.mp H
      obtain ⟨t826, A50, H⟩ := H
      replace H : (dasdlaw01_WireReturns.j0 k l0 (!t826)) = some r := H
      have A5 := Aside0.mk A50
      clear A50
      have H' := Aside0.mk H
      clear H
      go_wp2_with (first | ((with_reducible refine gate_callee (f := 25) rfl ?_); refine goesL_ (some 10) rfl rfl Try.func25 (by kernel_rfl) rfl #[] rfl (by (try simp only [List.map_toArray, List.map_cons, List.map_nil]); first | done | rfl | (simp only [List.length_drop, List.length_take]; rfl)) ?_; (with_reducible refine (dasdlaw01_awake.calls k  true _ A3.out).mono ?_); rintro e w6 ⟨rfl, hb⟩; refine ⟨_, rfl, ?_⟩; have n0_ := Aside0.mk (below_step (by repeat (first | (with_reducible first | exact HB.out | apply below_alloc | apply pw_below_drewN | apply below_drew1) | exact HB.out)) hb); clear HB; have HB := n0_; clear n0_; (try clear hb); (try clear hb2); (try clear hk); (try clear hi)) | (go_at_call 83; (with_reducible refine (dasdref01_Few.calls k _ _ l0 t826 _ ?side1 ?side2 A5.out).mono ?_); (case side1 => repeat (first | exact (Kd.C_below HR0.out HB.out) | (with_reducible refine Kd.C_alloc ?_ _) | (with_reducible refine Kd.C_drewN ?_ _) | (with_reducible refine Kd.C_drew ?_))); (case side2 => exact HC0.out); rintro e w' ⟨rfl, ⟨nd, rfl⟩⟩))
      go_meet
      case rel => exact ⟨_, (!t826), (by first | rfl | (simp; done) | (simp [*]; done)), H', ⟨by first | omega | exact Nat.le_refl _⟩, ⟨by repeat (first | (with_reducible first | exact HB.out | apply below_alloc | apply pw_below_drewN | apply below_drew1) | exact HB.out)⟩⟩
    · replace c4 := Bool.eq_false_iff.mpr c4
      subst c4
      have H1 : (dasdlaw01_WireReturns.j0 k l0 true) = some r := by rw [if_neg (show ¬ (false = true) by decide)] at H; exact H
      clear H
      have H := H1
      clear H1
      have H' := Aside0.mk H
      clear H
      go_wp2_with (first | ((with_reducible refine gate_callee (f := 25) rfl ?_); refine goesL_ (some 10) rfl rfl Try.func25 (by kernel_rfl) rfl #[] rfl (by (try simp only [List.map_toArray, List.map_cons, List.map_nil]); first | done | rfl | (simp only [List.length_drop, List.length_take]; rfl)) ?_; (with_reducible refine (dasdlaw01_awake.calls k  false _ A3.out).mono ?_); rintro e w7 ⟨rfl, hb⟩; refine ⟨_, rfl, ?_⟩; have n0_ := Aside0.mk (below_step (by repeat (first | (with_reducible first | exact HB.out | apply below_alloc | apply pw_below_drewN | apply below_drew1) | exact HB.out)) hb); clear HB; have HB := n0_; clear n0_; (try clear hb); (try clear hb2); (try clear hk); (try clear hi)))
      go_meet
      case rel => exact ⟨_, (true), (by first | rfl | (simp; done) | (simp [*]; done)), H', ⟨by first | omega | exact Nat.le_refl _⟩, ⟨by repeat (first | (with_reducible first | exact HB.out | apply below_alloc | apply pw_below_drewN | apply below_drew1) | exact HB.out)⟩⟩
  case rest =>
    clear HC2
    try clear c1
    try clear c2
    try clear p2
    try clear c4
    obtain ⟨kq, x16_1, rfl, HA, HJ1, HB⟩ := hcut
    cases kq with
    | zero => exact absurd HA.out (by simp [dasdlaw01_WireReturns.j0])
    | succ kj1 =>
      have H := HA.out
      clear HA
      simp only [dasdlaw01_WireReturns.j0] at H
      by_cases c8 : x16_1 = true
      · subst c8
        have H1 : ((dasdlaw01_awake.f kj1).bind fun t827 => (some t827)) = some r := by rw [if_pos rfl] at H; exact H
        clear H
        have H := H1
        clear H1
        replace H := Option.bind_eq_some_iff.mp H
        obtain ⟨t827, A90, H⟩ := H
        replace H : (some t827) = some r := H
        have A9 := Aside0.mk A90
        clear A90
        obtain rfl := Option.some.inj H
        go_wp2_with (first | ((with_reducible refine gate_callee (f := 25) rfl ?_); refine goesL_ (some 17) rfl rfl Try.func25 (by kernel_rfl) rfl #[] rfl (by (try simp only [List.map_toArray, List.map_cons, List.map_nil]); first | done | rfl | (simp only [List.length_drop, List.length_take]; rfl)) ?_; (with_reducible refine (dasdlaw01_awake.calls kj1  t827 _ A9.out).mono ?_); rintro e w10 ⟨rfl, hb⟩; refine ⟨_, rfl, ?_⟩; have n0_ := Aside0.mk (below_step (by repeat (first | (with_reducible first | exact HB.out | apply below_alloc | apply pw_below_drewN | apply below_drew1) | exact HB.out)) hb); clear HB; have HB := n0_; clear n0_; (try clear hb); (try clear hb2); (try clear hk); (try clear hi)))
        go_ret
        exact ⟨by first | rfl | (simp [errW_none, errW_some] <;> rfl) | (simp [*, errW_none, errW_some] <;> rfl), by repeat (first | (with_reducible first | exact HB.out | apply below_alloc | apply pw_below_drewN | apply below_drew1) | exact HB.out)⟩
      · replace c8 := Bool.eq_false_iff.mpr c8
        subst c8
        have H1 : (dasdlaw01_WireReturns.l0 kj1 l0 (⟨#[]⟩ : ByteArray) l0 (l0.length : Int) 0) = some r := by rw [if_neg (show ¬ (false = true) by decide)] at H; exact H
        clear H
        have H := H1
        clear H1
        have H' := Aside0.mk H
        clear H
        go_wp2
        go_loopg [3, 20] kj1 (fun kq v3 v20 w' => ∃ (x3_2 : ByteArray) (x20_2 : Int), v3 = .string x3_2 ∧ v20 = .int .i64 x20_2 ∧ Aside0 (dasdlaw01_WireReturns.l0 kq l0 x3_2 l0 (l0.length : Int) x20_2 = some r) ∧ Aside0 (kq ≤ kj1) ∧ Aside0 (Below w.heap.size w w'))
        case atStart => exact ⟨((⟨#[]⟩ : ByteArray)), (0), (by first | rfl | (simp; done) | (simp [*]; done)), (by first | rfl | (simp; done) | (simp [*]; done)), H', ⟨Nat.le_refl _⟩, ⟨by repeat (first | (with_reducible first | exact HB.out | apply below_alloc | apply pw_below_drewN | apply below_drew1) | exact HB.out)⟩⟩
        case round =>
          clear H'
          try clear c1
          try clear c2
          try clear p2
          try clear c4
          try clear c8
          try clear p2
          obtain ⟨x3_2, x20_2, rfl, rfl, HA, HK2, HB⟩ := hrel
          cases gk with
          | zero => exact absurd HA.out (by simp [dasdlaw01_WireReturns.l0])
          | succ k2 =>
            have H := HA.out
            clear HA
            simp only [dasdlaw01_WireReturns.l0] at H
            by_cases c11 : x20_2 < (l0.length : Int)
            · rw [if_pos c11] at H
              have c11b0 : decide (x20_2 < (l0.length : Int)) = true := decide_eq_true c11
              clear c11
              by_cases c12 : 0 ≤ x20_2
              · rw [if_pos c12] at H
                have c12b0 : decide (0 ≤ x20_2) = true := decide_eq_true c12
                clear c12
                by_cases c13 : x20_2 < (l0.length : Int)
                · rw [if_pos c13] at H
                  have c13b0 : decide (x20_2 < (l0.length : Int)) = true := decide_eq_true c13
                  clear c13
                  by_cases c14 : (Int.tmod ((rd_T91 l0 x20_2).f0) 4) = 0
                  · rw [if_pos c14] at H
                    have c14b0 : ((Int.tmod ((rd_T91 l0 x20_2).f0) 4) == 0) = true := beq_iff_eq.mpr c14
                    have c14b1 : ((Int.tmod ((rd_T91 l0 x20_2).f0) 4) != 0) = false := bne_eq_false_iff_eq.mpr c14
                    clear c14
                    replace H := Option.bind_eq_some_iff.mp H
                    obtain ⟨t830, A150, H⟩ := H
                    replace H : (dasdlaw01_WireReturns.l0 k2 l0 t830 l0 (l0.length : Int) (wrap64 (x20_2 + 1))) = some r := H
                    have A15 := Aside0.mk A150
                    clear A150
                    have H' := Aside0.mk H
                    clear H
                    have p828 : 0 ≤ (x20_2 : Int) := of_decide_eq_true (by first | (with_reducible assumption) | assumption)
                    have q828 : x20_2 < (l0.length : Int) := of_decide_eq_true (by first | (with_reducible assumption) | assumption)
                    obtain ⟨ad828, e828, hx828_0, hx828_1, hx828_2, hx828_3, hx828_4⟩ := at_T91 HR0.out x20_2 p828 q828
                    cases e828
                    replace hx828_0 := (HB.out.cell (World.block_lt_of_cell? w _ hx828_0)).trans hx828_0
                    replace hx828_1 := (HB.out.cell (World.block_lt_of_cell? w _ hx828_1)).trans hx828_1
                    replace hx828_2 := (HB.out.cell (World.block_lt_of_cell? w _ hx828_2)).trans hx828_2
                    replace hx828_3 := (HB.out.cell (World.block_lt_of_cell? w _ hx828_3)).trans hx828_3
                    replace hx828_4 := (HB.out.cell (World.block_lt_of_cell? w _ hx828_4)).trans hx828_4
                    replace p828 := eq_true p828
                    replace q828 := eq_true q828
                    go_wp2_with (first | ((with_reducible refine gate_dst (N := 5) rfl ?_); refine box_event ?hg (N := 5) ?hd (cs := #[.int .u8 0, .int .u64 0, .int .i64 0, .bool false, .string (⟨#[]⟩ : ByteArray)]) (t := 91) ?hr ?_; (case hd => rfl); (case hg => rfl); (case hr => first | (go_simp; done) | (go_simp; rfl)); intro gb829 hg w16 hbox hb; have n0_ := Aside0.mk (below_step (by repeat (first | (with_reducible first | exact HB.out | apply below_alloc | apply pw_below_drewN | apply below_drew1) | exact HB.out)) hb); have n1_ := Aside0.mk (hbox); have n2_ := Aside0.mk ((by rw [hg]; exact (below_size (by repeat (first | (with_reducible first | exact HB.out | apply below_alloc | apply pw_below_drewN | apply below_drew1) | exact HB.out))) : w.heap.size ≤ gb829)); have n3_ := Aside0.mk ((by rw [hg]; exact (below_size (by repeat (first | (with_reducible first | exact HB.out | apply below_alloc | apply pw_below_drewN | apply below_drew1) | exact HB.out))) : w.heap.size ≤ gb829)); clear HB; have HB := n0_; have BK829 := n1_; have GW829 := n2_; have GE829 := n3_; clear n0_ n1_ n2_ n3_; clear hb hbox hg; have hcz17_0 : w16.cell? ⟨gb829, 0, none⟩ = some (.int .u8 0) := (blk_cell BK829.out 0).trans rfl; have hcz17_1 : w16.cell? ⟨gb829, 1, none⟩ = some (.int .u64 0) := (blk_cell BK829.out 1).trans rfl; have hcz17_2 : w16.cell? ⟨gb829, 2, none⟩ = some (.int .i64 0) := (blk_cell BK829.out 2).trans rfl; have hcz17_3 : w16.cell? ⟨gb829, 3, none⟩ = some (.bool false) := (blk_cell BK829.out 3).trans rfl; have hcz17_4 : w16.cell? ⟨gb829, 4, none⟩ = some (.string (⟨#[]⟩ : ByteArray)) := (blk_cell BK829.out 4).trans rfl; have hfz17_0 := blk_frozen BK829.out 0; have hfz17_1 := blk_frozen BK829.out 1; have hfz17_2 := blk_frozen BK829.out 2; have hfz17_3 := blk_frozen BK829.out 3; have hfz17_4 := blk_frozen BK829.out 4) | ((with_reducible refine gate_callee (f := 26) rfl ?_); refine goesL_ (some 36) rfl rfl Try.func26 (by kernel_rfl) rfl #[.string x3_2, .int .u64 ((rd_T91 l0 x20_2).f1)] rfl (by (try simp only [List.map_toArray, List.map_cons, List.map_nil]); first | done | rfl | (simp only [List.length_drop, List.length_take]; rfl)) ?_; (with_reducible refine (wire_AppendNumber.calls x3_2 ((rd_T91 l0 x20_2).f1) t830 _ A15.out).mono ?_); rintro e w18 ⟨rfl, hb⟩; refine ⟨_, rfl, ?_⟩; have n0_ := Aside0.mk (blk_below (g := gb829) (o := .cells #[.int .u8 ((rd_T91 l0 x20_2).f0), .int .u64 ((rd_T91 l0 x20_2).f1), .int .i64 ((rd_T91 l0 x20_2).f2), .bool ((rd_T91 l0 x20_2).f3), .string ((rd_T91 l0 x20_2).f4)] 91 (0, 0)) (by (with_reducible repeat (first | refine blk_drewN ?_ _ | refine blk_drew ?_ | refine blk_alloc ?_ _)); refine blk_put (cs := #[.int .u8 ((rd_T91 l0 x20_2).f0), .int .u64 ((rd_T91 l0 x20_2).f1), .int .i64 ((rd_T91 l0 x20_2).f2), .bool ((rd_T91 l0 x20_2).f3), .string (⟨#[]⟩ : ByteArray)]) ?_ 4 _ rfl; (with_reducible repeat (first | refine blk_drewN ?_ _ | refine blk_drew ?_ | refine blk_alloc ?_ _)); refine blk_put (cs := #[.int .u8 ((rd_T91 l0 x20_2).f0), .int .u64 ((rd_T91 l0 x20_2).f1), .int .i64 ((rd_T91 l0 x20_2).f2), .bool false, .string (⟨#[]⟩ : ByteArray)]) ?_ 3 _ rfl; (with_reducible repeat (first | refine blk_drewN ?_ _ | refine blk_drew ?_ | refine blk_alloc ?_ _)); refine blk_put (cs := #[.int .u8 ((rd_T91 l0 x20_2).f0), .int .u64 ((rd_T91 l0 x20_2).f1), .int .i64 0, .bool false, .string (⟨#[]⟩ : ByteArray)]) ?_ 2 _ rfl; (with_reducible repeat (first | refine blk_drewN ?_ _ | refine blk_drew ?_ | refine blk_alloc ?_ _)); refine blk_put (cs := #[.int .u8 ((rd_T91 l0 x20_2).f0), .int .u64 0, .int .i64 0, .bool false, .string (⟨#[]⟩ : ByteArray)]) ?_ 1 _ rfl; (with_reducible repeat (first | refine blk_drewN ?_ _ | refine blk_drew ?_ | refine blk_alloc ?_ _)); refine blk_put (cs := #[.int .u8 0, .int .u64 0, .int .i64 0, .bool false, .string (⟨#[]⟩ : ByteArray)]) ?_ 0 _ rfl; (with_reducible repeat (first | refine blk_drewN ?_ _ | refine blk_drew ?_ | refine blk_alloc ?_ _)); exact BK829.out) hb); have n1_ := Aside0.mk (below_step (by repeat (first | (with_reducible first | exact HB.out | apply below_alloc | apply pw_below_drewN | apply below_drew1 | refine below_set ?_ GE829.out) | exact HB.out)) hb); clear BK829; clear HB; have BK829 := n0_; have HB := n1_; clear n0_ n1_; (try clear hb); (try clear hb2); (try clear hk); (try clear hi)))
                    go_roundg k2
                    case measure => have := HJ1.out; have := HK2.out; omega
                    case rel => exact ⟨(t830), (wrap64 (x20_2 + 1)), (by first | rfl | (simp; done) | (simp [*]; done)), (by first | rfl | (simp; done) | (simp [*]; done)), H', ⟨by have := HJ1.out; have := HK2.out; omega⟩, ⟨by repeat (first | (with_reducible first | exact HB.out | apply below_alloc | apply pw_below_drewN | apply below_drew1 | refine below_set ?_ GE829.out) | exact HB.out)⟩⟩
                  · rw [if_neg c14] at H
                    have c14b0 : ((Int.tmod ((rd_T91 l0 x20_2).f0) 4) == 0) = false := beq_eq_false_iff_ne.mpr c14
                    have c14b1 : ((Int.tmod ((rd_T91 l0 x20_2).f0) 4) != 0) = true := bne_iff_ne.mpr c14
                    by_cases c19 : (Int.tmod ((rd_T91 l0 x20_2).f0) 4) = 1
                    · rw [if_pos c19] at H
                      have c19b0 : ((Int.tmod ((rd_T91 l0 x20_2).f0) 4) == 1) = true := beq_iff_eq.mpr c19
                      have c19b1 : ((Int.tmod ((rd_T91 l0 x20_2).f0) 4) != 1) = false := bne_eq_false_iff_eq.mpr c19
                      clear c19
                      replace H := Option.bind_eq_some_iff.mp H
                      obtain ⟨t831, A200, H⟩ := H
                      replace H : (dasdlaw01_WireReturns.l0 k2 l0 t831 l0 (l0.length : Int) (wrap64 (x20_2 + 1))) = some r := H
                      have A20 := Aside0.mk A200
                      clear A200
                      have H' := Aside0.mk H
                      clear H
                      have p828 : 0 ≤ (x20_2 : Int) := of_decide_eq_true (by first | (with_reducible assumption) | assumption)
                      have q828 : x20_2 < (l0.length : Int) := of_decide_eq_true (by first | (with_reducible assumption) | assumption)
                      obtain ⟨ad828, e828, hx828_0, hx828_1, hx828_2, hx828_3, hx828_4⟩ := at_T91 HR0.out x20_2 p828 q828
                      cases e828
                      replace hx828_0 := (HB.out.cell (World.block_lt_of_cell? w _ hx828_0)).trans hx828_0
                      replace hx828_1 := (HB.out.cell (World.block_lt_of_cell? w _ hx828_1)).trans hx828_1
                      replace hx828_2 := (HB.out.cell (World.block_lt_of_cell? w _ hx828_2)).trans hx828_2
                      replace hx828_3 := (HB.out.cell (World.block_lt_of_cell? w _ hx828_3)).trans hx828_3
                      replace hx828_4 := (HB.out.cell (World.block_lt_of_cell? w _ hx828_4)).trans hx828_4
                      replace p828 := eq_true p828
                      replace q828 := eq_true q828
                      go_wp2_with (first | ((with_reducible refine gate_dst (N := 5) rfl ?_); refine box_event ?hg (N := 5) ?hd (cs := #[.int .u8 0, .int .u64 0, .int .i64 0, .bool false, .string (⟨#[]⟩ : ByteArray)]) (t := 91) ?hr ?_; (case hd => rfl); (case hg => rfl); (case hr => first | (go_simp; done) | (go_simp; rfl)); intro gb829 hg w21 hbox hb; have n0_ := Aside0.mk (below_step (by repeat (first | (with_reducible first | exact HB.out | apply below_alloc | apply pw_below_drewN | apply below_drew1) | exact HB.out)) hb); have n1_ := Aside0.mk (hbox); have n2_ := Aside0.mk ((by rw [hg]; exact (below_size (by repeat (first | (with_reducible first | exact HB.out | apply below_alloc | apply pw_below_drewN | apply below_drew1) | exact HB.out))) : w.heap.size ≤ gb829)); have n3_ := Aside0.mk ((by rw [hg]; exact (below_size (by repeat (first | (with_reducible first | exact HB.out | apply below_alloc | apply pw_below_drewN | apply below_drew1) | exact HB.out))) : w.heap.size ≤ gb829)); clear HB; have HB := n0_; have BK829 := n1_; have GW829 := n2_; have GE829 := n3_; clear n0_ n1_ n2_ n3_; clear hb hbox hg; have hcz22_0 : w21.cell? ⟨gb829, 0, none⟩ = some (.int .u8 0) := (blk_cell BK829.out 0).trans rfl; have hcz22_1 : w21.cell? ⟨gb829, 1, none⟩ = some (.int .u64 0) := (blk_cell BK829.out 1).trans rfl; have hcz22_2 : w21.cell? ⟨gb829, 2, none⟩ = some (.int .i64 0) := (blk_cell BK829.out 2).trans rfl; have hcz22_3 : w21.cell? ⟨gb829, 3, none⟩ = some (.bool false) := (blk_cell BK829.out 3).trans rfl; have hcz22_4 : w21.cell? ⟨gb829, 4, none⟩ = some (.string (⟨#[]⟩ : ByteArray)) := (blk_cell BK829.out 4).trans rfl; have hfz22_0 := blk_frozen BK829.out 0; have hfz22_1 := blk_frozen BK829.out 1; have hfz22_2 := blk_frozen BK829.out 2; have hfz22_3 := blk_frozen BK829.out 3; have hfz22_4 := blk_frozen BK829.out 4) | ((with_reducible refine gate_callee (f := 28) rfl ?_); refine goesL_ (some 42) rfl rfl Try.func28 (by kernel_rfl) rfl #[.string x3_2, .int .i64 ((rd_T91 l0 x20_2).f2)] rfl (by (try simp only [List.map_toArray, List.map_cons, List.map_nil]); first | done | rfl | (simp only [List.length_drop, List.length_take]; rfl)) ?_; (with_reducible refine (wire_AppendInt.calls x3_2 ((rd_T91 l0 x20_2).f2) t831 _ A20.out).mono ?_); rintro e w23 ⟨rfl, hb⟩; refine ⟨_, rfl, ?_⟩; have n0_ := Aside0.mk (blk_below (g := gb829) (o := .cells #[.int .u8 ((rd_T91 l0 x20_2).f0), .int .u64 ((rd_T91 l0 x20_2).f1), .int .i64 ((rd_T91 l0 x20_2).f2), .bool ((rd_T91 l0 x20_2).f3), .string ((rd_T91 l0 x20_2).f4)] 91 (0, 0)) (by (with_reducible repeat (first | refine blk_drewN ?_ _ | refine blk_drew ?_ | refine blk_alloc ?_ _)); refine blk_put (cs := #[.int .u8 ((rd_T91 l0 x20_2).f0), .int .u64 ((rd_T91 l0 x20_2).f1), .int .i64 ((rd_T91 l0 x20_2).f2), .bool ((rd_T91 l0 x20_2).f3), .string (⟨#[]⟩ : ByteArray)]) ?_ 4 _ rfl; (with_reducible repeat (first | refine blk_drewN ?_ _ | refine blk_drew ?_ | refine blk_alloc ?_ _)); refine blk_put (cs := #[.int .u8 ((rd_T91 l0 x20_2).f0), .int .u64 ((rd_T91 l0 x20_2).f1), .int .i64 ((rd_T91 l0 x20_2).f2), .bool false, .string (⟨#[]⟩ : ByteArray)]) ?_ 3 _ rfl; (with_reducible repeat (first | refine blk_drewN ?_ _ | refine blk_drew ?_ | refine blk_alloc ?_ _)); refine blk_put (cs := #[.int .u8 ((rd_T91 l0 x20_2).f0), .int .u64 ((rd_T91 l0 x20_2).f1), .int .i64 0, .bool false, .string (⟨#[]⟩ : ByteArray)]) ?_ 2 _ rfl; (with_reducible repeat (first | refine blk_drewN ?_ _ | refine blk_drew ?_ | refine blk_alloc ?_ _)); refine blk_put (cs := #[.int .u8 ((rd_T91 l0 x20_2).f0), .int .u64 0, .int .i64 0, .bool false, .string (⟨#[]⟩ : ByteArray)]) ?_ 1 _ rfl; (with_reducible repeat (first | refine blk_drewN ?_ _ | refine blk_drew ?_ | refine blk_alloc ?_ _)); refine blk_put (cs := #[.int .u8 0, .int .u64 0, .int .i64 0, .bool false, .string (⟨#[]⟩ : ByteArray)]) ?_ 0 _ rfl; (with_reducible repeat (first | refine blk_drewN ?_ _ | refine blk_drew ?_ | refine blk_alloc ?_ _)); exact BK829.out) hb); have n1_ := Aside0.mk (below_step (by repeat (first | (with_reducible first | exact HB.out | apply below_alloc | apply pw_below_drewN | apply below_drew1 | refine below_set ?_ GE829.out) | exact HB.out)) hb); clear BK829; clear HB; have BK829 := n0_; have HB := n1_; clear n0_ n1_; (try clear hb); (try clear hb2); (try clear hk); (try clear hi)))
                      go_roundg k2
                      case measure => have := HJ1.out; have := HK2.out; omega
                      case rel => exact ⟨(t831), (wrap64 (x20_2 + 1)), (by first | rfl | (simp; done) | (simp [*]; done)), (by first | rfl | (simp; done) | (simp [*]; done)), H', ⟨by have := HJ1.out; have := HK2.out; omega⟩, ⟨by repeat (first | (with_reducible first | exact HB.out | apply below_alloc | apply pw_below_drewN | apply below_drew1 | refine below_set ?_ GE829.out) | exact HB.out)⟩⟩
                    · rw [if_neg c19] at H
                      have c19b0 : ((Int.tmod ((rd_T91 l0 x20_2).f0) 4) == 1) = false := beq_eq_false_iff_ne.mpr c19
                      have c19b1 : ((Int.tmod ((rd_T91 l0 x20_2).f0) 4) != 1) = true := bne_iff_ne.mpr c19
                      by_cases c24 : (Int.tmod ((rd_T91 l0 x20_2).f0) 4) = 2
                      · rw [if_pos c24] at H
                        have c24b0 : ((Int.tmod ((rd_T91 l0 x20_2).f0) 4) == 2) = true := beq_iff_eq.mpr c24
                        have c24b1 : ((Int.tmod ((rd_T91 l0 x20_2).f0) 4) != 2) = false := bne_eq_false_iff_eq.mpr c24
                        clear c24
                        replace H := Option.bind_eq_some_iff.mp H
                        obtain ⟨t832, A250, H⟩ := H
                        replace H : (dasdlaw01_WireReturns.l0 k2 l0 t832 l0 (l0.length : Int) (wrap64 (x20_2 + 1))) = some r := H
                        have A25 := Aside0.mk A250
                        clear A250
                        have H' := Aside0.mk H
                        clear H
                        have p828 : 0 ≤ (x20_2 : Int) := of_decide_eq_true (by first | (with_reducible assumption) | assumption)
                        have q828 : x20_2 < (l0.length : Int) := of_decide_eq_true (by first | (with_reducible assumption) | assumption)
                        obtain ⟨ad828, e828, hx828_0, hx828_1, hx828_2, hx828_3, hx828_4⟩ := at_T91 HR0.out x20_2 p828 q828
                        cases e828
                        replace hx828_0 := (HB.out.cell (World.block_lt_of_cell? w _ hx828_0)).trans hx828_0
                        replace hx828_1 := (HB.out.cell (World.block_lt_of_cell? w _ hx828_1)).trans hx828_1
                        replace hx828_2 := (HB.out.cell (World.block_lt_of_cell? w _ hx828_2)).trans hx828_2
                        replace hx828_3 := (HB.out.cell (World.block_lt_of_cell? w _ hx828_3)).trans hx828_3
                        replace hx828_4 := (HB.out.cell (World.block_lt_of_cell? w _ hx828_4)).trans hx828_4
                        replace p828 := eq_true p828
                        replace q828 := eq_true q828
                        go_wp2_with (first | ((with_reducible refine gate_dst (N := 5) rfl ?_); refine box_event ?hg (N := 5) ?hd (cs := #[.int .u8 0, .int .u64 0, .int .i64 0, .bool false, .string (⟨#[]⟩ : ByteArray)]) (t := 91) ?hr ?_; (case hd => rfl); (case hg => rfl); (case hr => first | (go_simp; done) | (go_simp; rfl)); intro gb829 hg w26 hbox hb; have n0_ := Aside0.mk (below_step (by repeat (first | (with_reducible first | exact HB.out | apply below_alloc | apply pw_below_drewN | apply below_drew1) | exact HB.out)) hb); have n1_ := Aside0.mk (hbox); have n2_ := Aside0.mk ((by rw [hg]; exact (below_size (by repeat (first | (with_reducible first | exact HB.out | apply below_alloc | apply pw_below_drewN | apply below_drew1) | exact HB.out))) : w.heap.size ≤ gb829)); have n3_ := Aside0.mk ((by rw [hg]; exact (below_size (by repeat (first | (with_reducible first | exact HB.out | apply below_alloc | apply pw_below_drewN | apply below_drew1) | exact HB.out))) : w.heap.size ≤ gb829)); clear HB; have HB := n0_; have BK829 := n1_; have GW829 := n2_; have GE829 := n3_; clear n0_ n1_ n2_ n3_; clear hb hbox hg; have hcz27_0 : w26.cell? ⟨gb829, 0, none⟩ = some (.int .u8 0) := (blk_cell BK829.out 0).trans rfl; have hcz27_1 : w26.cell? ⟨gb829, 1, none⟩ = some (.int .u64 0) := (blk_cell BK829.out 1).trans rfl; have hcz27_2 : w26.cell? ⟨gb829, 2, none⟩ = some (.int .i64 0) := (blk_cell BK829.out 2).trans rfl; have hcz27_3 : w26.cell? ⟨gb829, 3, none⟩ = some (.bool false) := (blk_cell BK829.out 3).trans rfl; have hcz27_4 : w26.cell? ⟨gb829, 4, none⟩ = some (.string (⟨#[]⟩ : ByteArray)) := (blk_cell BK829.out 4).trans rfl; have hfz27_0 := blk_frozen BK829.out 0; have hfz27_1 := blk_frozen BK829.out 1; have hfz27_2 := blk_frozen BK829.out 2; have hfz27_3 := blk_frozen BK829.out 3; have hfz27_4 := blk_frozen BK829.out 4) | ((with_reducible refine gate_callee (f := 30) rfl ?_); refine goesL_ (some 48) rfl rfl Try.func30 (by kernel_rfl) rfl #[.string x3_2, .bool ((rd_T91 l0 x20_2).f3)] rfl (by (try simp only [List.map_toArray, List.map_cons, List.map_nil]); first | done | rfl | (simp only [List.length_drop, List.length_take]; rfl)) ?_; (with_reducible refine (wire_AppendBool.calls x3_2 ((rd_T91 l0 x20_2).f3) t832 _ A25.out).mono ?_); rintro e w' ⟨rfl, ⟨nd, rfl⟩⟩; refine ⟨_, rfl, ?_⟩))
                        go_roundg k2
                        case measure => have := HJ1.out; have := HK2.out; omega
                        case rel => exact ⟨(t832), (wrap64 (x20_2 + 1)), (by first | rfl | (simp; done) | (simp [*]; done)), (by first | rfl | (simp; done) | (simp [*]; done)), H', ⟨by have := HJ1.out; have := HK2.out; omega⟩, ⟨by repeat (first | (with_reducible first | exact HB.out | apply below_alloc | apply pw_below_drewN | apply below_drew1 | refine below_set ?_ GE829.out) | exact HB.out)⟩⟩
                      · rw [if_neg c24] at H
                        have c24b0 : ((Int.tmod ((rd_T91 l0 x20_2).f0) 4) == 2) = false := beq_eq_false_iff_ne.mpr c24
                        have c24b1 : ((Int.tmod ((rd_T91 l0 x20_2).f0) 4) != 2) = true := bne_iff_ne.mpr c24
                        replace H := Option.bind_eq_some_iff.mp H
                        obtain ⟨t833, A280, H⟩ := H
                        replace H : (dasdlaw01_WireReturns.l0 k2 l0 t833 l0 (l0.length : Int) (wrap64 (x20_2 + 1))) = some r := H
                        have A28 := Aside0.mk A280
                        clear A280
                        have H' := Aside0.mk H
                        clear H
                        have p828 : 0 ≤ (x20_2 : Int) := of_decide_eq_true (by first | (with_reducible assumption) | assumption)
                        have q828 : x20_2 < (l0.length : Int) := of_decide_eq_true (by first | (with_reducible assumption) | assumption)
                        obtain ⟨ad828, e828, hx828_0, hx828_1, hx828_2, hx828_3, hx828_4⟩ := at_T91 HR0.out x20_2 p828 q828
                        cases e828
                        replace hx828_0 := (HB.out.cell (World.block_lt_of_cell? w _ hx828_0)).trans hx828_0
                        replace hx828_1 := (HB.out.cell (World.block_lt_of_cell? w _ hx828_1)).trans hx828_1
                        replace hx828_2 := (HB.out.cell (World.block_lt_of_cell? w _ hx828_2)).trans hx828_2
                        replace hx828_3 := (HB.out.cell (World.block_lt_of_cell? w _ hx828_3)).trans hx828_3
                        replace hx828_4 := (HB.out.cell (World.block_lt_of_cell? w _ hx828_4)).trans hx828_4
                        replace p828 := eq_true p828
                        replace q828 := eq_true q828
                        go_wp2_with (first | ((with_reducible refine gate_dst (N := 5) rfl ?_); refine box_event ?hg (N := 5) ?hd (cs := #[.int .u8 0, .int .u64 0, .int .i64 0, .bool false, .string (⟨#[]⟩ : ByteArray)]) (t := 91) ?hr ?_; (case hd => rfl); (case hg => rfl); (case hr => first | (go_simp; done) | (go_simp; rfl)); intro gb829 hg w29 hbox hb; have n0_ := Aside0.mk (below_step (by repeat (first | (with_reducible first | exact HB.out | apply below_alloc | apply pw_below_drewN | apply below_drew1) | exact HB.out)) hb); have n1_ := Aside0.mk (hbox); have n2_ := Aside0.mk ((by rw [hg]; exact (below_size (by repeat (first | (with_reducible first | exact HB.out | apply below_alloc | apply pw_below_drewN | apply below_drew1) | exact HB.out))) : w.heap.size ≤ gb829)); have n3_ := Aside0.mk ((by rw [hg]; exact (below_size (by repeat (first | (with_reducible first | exact HB.out | apply below_alloc | apply pw_below_drewN | apply below_drew1) | exact HB.out))) : w.heap.size ≤ gb829)); clear HB; have HB := n0_; have BK829 := n1_; have GW829 := n2_; have GE829 := n3_; clear n0_ n1_ n2_ n3_; clear hb hbox hg; have hcz30_0 : w29.cell? ⟨gb829, 0, none⟩ = some (.int .u8 0) := (blk_cell BK829.out 0).trans rfl; have hcz30_1 : w29.cell? ⟨gb829, 1, none⟩ = some (.int .u64 0) := (blk_cell BK829.out 1).trans rfl; have hcz30_2 : w29.cell? ⟨gb829, 2, none⟩ = some (.int .i64 0) := (blk_cell BK829.out 2).trans rfl; have hcz30_3 : w29.cell? ⟨gb829, 3, none⟩ = some (.bool false) := (blk_cell BK829.out 3).trans rfl; have hcz30_4 : w29.cell? ⟨gb829, 4, none⟩ = some (.string (⟨#[]⟩ : ByteArray)) := (blk_cell BK829.out 4).trans rfl; have hfz30_0 := blk_frozen BK829.out 0; have hfz30_1 := blk_frozen BK829.out 1; have hfz30_2 := blk_frozen BK829.out 2; have hfz30_3 := blk_frozen BK829.out 3; have hfz30_4 := blk_frozen BK829.out 4) | ((with_reducible refine gate_callee (f := 32) rfl ?_); refine goesL_ (some 30) rfl rfl Try.func32 (by kernel_rfl) rfl #[.string x3_2, .string ((rd_T91 l0 x20_2).f4)] rfl (by (try simp only [List.map_toArray, List.map_cons, List.map_nil]); first | done | rfl | (simp only [List.length_drop, List.length_take]; rfl)) ?_; (with_reducible refine (wire_AppendText.calls x3_2 ((rd_T91 l0 x20_2).f4) t833 _ A28.out).mono ?_); rintro e w31 ⟨rfl, hb⟩; refine ⟨_, rfl, ?_⟩; have n0_ := Aside0.mk (blk_below (g := gb829) (o := .cells #[.int .u8 ((rd_T91 l0 x20_2).f0), .int .u64 ((rd_T91 l0 x20_2).f1), .int .i64 ((rd_T91 l0 x20_2).f2), .bool ((rd_T91 l0 x20_2).f3), .string ((rd_T91 l0 x20_2).f4)] 91 (0, 0)) (by (with_reducible repeat (first | refine blk_drewN ?_ _ | refine blk_drew ?_ | refine blk_alloc ?_ _)); refine blk_put (cs := #[.int .u8 ((rd_T91 l0 x20_2).f0), .int .u64 ((rd_T91 l0 x20_2).f1), .int .i64 ((rd_T91 l0 x20_2).f2), .bool ((rd_T91 l0 x20_2).f3), .string (⟨#[]⟩ : ByteArray)]) ?_ 4 _ rfl; (with_reducible repeat (first | refine blk_drewN ?_ _ | refine blk_drew ?_ | refine blk_alloc ?_ _)); refine blk_put (cs := #[.int .u8 ((rd_T91 l0 x20_2).f0), .int .u64 ((rd_T91 l0 x20_2).f1), .int .i64 ((rd_T91 l0 x20_2).f2), .bool false, .string (⟨#[]⟩ : ByteArray)]) ?_ 3 _ rfl; (with_reducible repeat (first | refine blk_drewN ?_ _ | refine blk_drew ?_ | refine blk_alloc ?_ _)); refine blk_put (cs := #[.int .u8 ((rd_T91 l0 x20_2).f0), .int .u64 ((rd_T91 l0 x20_2).f1), .int .i64 0, .bool false, .string (⟨#[]⟩ : ByteArray)]) ?_ 2 _ rfl; (with_reducible repeat (first | refine blk_drewN ?_ _ | refine blk_drew ?_ | refine blk_alloc ?_ _)); refine blk_put (cs := #[.int .u8 ((rd_T91 l0 x20_2).f0), .int .u64 0, .int .i64 0, .bool false, .string (⟨#[]⟩ : ByteArray)]) ?_ 1 _ rfl; (with_reducible repeat (first | refine blk_drewN ?_ _ | refine blk_drew ?_ | refine blk_alloc ?_ _)); refine blk_put (cs := #[.int .u8 0, .int .u64 0, .int .i64 0, .bool false, .string (⟨#[]⟩ : ByteArray)]) ?_ 0 _ rfl; (with_reducible repeat (first | refine blk_drewN ?_ _ | refine blk_drew ?_ | refine blk_alloc ?_ _)); exact BK829.out) hb); have n1_ := Aside0.mk (below_step (by repeat (first | (with_reducible first | exact HB.out | apply below_alloc | apply pw_below_drewN | apply below_drew1 | refine below_set ?_ GE829.out) | exact HB.out)) hb); clear BK829; clear HB; have BK829 := n0_; have HB := n1_; clear n0_ n1_; (try clear hb); (try clear hb2); (try clear hk); (try clear hi)))
                        go_roundg k2
                        case measure => have := HJ1.out; have := HK2.out; omega
                        case rel => exact ⟨(t833), (wrap64 (x20_2 + 1)), (by first | rfl | (simp; done) | (simp [*]; done)), (by first | rfl | (simp; done) | (simp [*]; done)), H', ⟨by have := HJ1.out; have := HK2.out; omega⟩, ⟨by repeat (first | (with_reducible first | exact HB.out | apply below_alloc | apply pw_below_drewN | apply below_drew1 | refine below_set ?_ GE829.out) | exact HB.out)⟩⟩
                · rw [if_neg c13] at H
                  exact absurd H (by simp)
              · rw [if_neg c12] at H
                exact absurd H (by simp)
            · rw [if_neg c11] at H
              have c11b0 : decide (x20_2 < (l0.length : Int)) = false := decide_eq_false c11
              clear c11
              replace H := Option.bind_eq_some_iff.mp H
              obtain ⟨⟨t834, t835⟩, A320, H⟩ := H
              replace H : (dasdlaw01_WireReturns.l1 k2 l0 (l0.length : Int) 0 t834 t835) = some r := H
              have A32 := Aside0.mk A320
              clear A320
              have H' := Aside0.mk H
              clear H
              go_wp2_with (first | ((with_reducible refine gate_callee (f := 62) rfl ?_); refine goesL_ (some 51) rfl rfl Try.func62 (by kernel_rfl) rfl #[.string x3_2] rfl (by (try simp only [List.map_toArray, List.map_cons, List.map_nil]); first | done | rfl | (simp only [List.length_drop, List.length_take]; rfl)) ?_; (with_reducible refine (wire_NewReader.calls x3_2 t834 t835 w _ ?side1 A32.out).mono ?_); (case side1 => repeat (first | (with_reducible first | exact HB.out | apply below_alloc | apply pw_below_drewN | apply below_drew1) | exact HB.out)); rintro e w33 ⟨g836, rfl, hi, hb, hb2⟩; refine ⟨_, rfl, ?_⟩; have n0_ := Aside0.mk (hb); have n1_ := Aside0.mk (hi); clear HB; have HB := n0_; have HI836 := n1_; clear n0_ n1_; (try clear hb); (try clear hb2); (try clear hk); (try clear hi)))
              go_loopg [56] k2 (fun kq v56 w' => ∃ (x56_3 : Int) (x837000_3 : ByteArray) (x837001_3 : Int), v56 = .int .i64 x56_3 ∧ Aside0 (dasdlaw01_WireReturns.l1 kq l0 (l0.length : Int) x56_3 x837000_3 x837001_3 = some r) ∧ Aside0 (kq ≤ k2) ∧ Aside0 (IsS110 w w' g836 x837000_3 x837001_3) ∧ Aside0 (Below w.heap.size w w'))
              case atStart => exact ⟨(0), (t834), (t835), (by first | rfl | (simp; done) | (simp [*]; done)), H', ⟨Nat.le_refl _⟩, ⟨by repeat (first | (with_reducible first | exact HI836.out | apply IsS110.alloc | apply IsS110.drewN | apply IsS110.drew | apply IsS110.set_0 | apply IsS110.set_1) | exact HI836.out)⟩, ⟨by repeat (first | (with_reducible first | exact HB.out | apply below_alloc | apply pw_below_drewN | apply below_drew1 | refine below_set ?_ (IsS110.ge HI836.out)) | exact HB.out)⟩⟩
              case round =>
                clear H'
                try clear c1
                try clear c2
                try clear p2
                try clear c3
                try clear c4
                try clear c6
                try clear p6
                try clear c8
                try clear p8
                try clear q8
                try clear hx8
                try clear c11
                try clear c11b0
                try clear c12
                try clear c12b0
                try clear c13
                try clear c13b0
                try clear c14
                try clear c14b0
                try clear c14b1
                try clear c17
                try clear c19
                try clear c19b0
                try clear c19b1
                try clear c24
                try clear c24b0
                try clear c24b1
                try clear c25
                try clear c26
                try clear c28
                try clear c30
                try clear c32
                try clear hcz17_0
                try clear hcz17_1
                try clear hcz17_2
                try clear hcz17_3
                try clear hcz17_4
                try clear hcz22_0
                try clear hcz22_1
                try clear hcz22_2
                try clear hcz22_3
                try clear hcz22_4
                try clear hcz27_0
                try clear hcz27_1
                try clear hcz27_2
                try clear hcz27_3
                try clear hcz27_4
                try clear hcz30_0
                try clear hcz30_1
                try clear hcz30_2
                try clear hcz30_3
                try clear hcz30_4
                try clear hfz17_0
                try clear hfz17_1
                try clear hfz17_2
                try clear hfz17_3
                try clear hfz17_4
                try clear hfz22_0
                try clear hfz22_1
                try clear hfz22_2
                try clear hfz22_3
                try clear hfz22_4
                try clear hfz27_0
                try clear hfz27_1
                try clear hfz27_2
                try clear hfz27_3
                try clear hfz27_4
                try clear hfz30_0
                try clear hfz30_1
                try clear hfz30_2
                try clear hfz30_3
                try clear hfz30_4
                try clear hx828_0
                try clear hx828_1
                try clear hx828_2
                try clear hx828_3
                try clear hx828_4
                try clear p2
                try clear p828
                try clear q828
                obtain ⟨x56_3, x837000_3, x837001_3, rfl, HA, HK3, HI836, HB⟩ := hrel
                cases gk with
                | zero => exact absurd HA.out (by simp [dasdlaw01_WireReturns.l1])
                | succ k3 =>
                  have H := HA.out
                  clear HA
                  simp only [dasdlaw01_WireReturns.l1] at H
                  by_cases c34 : x56_3 < (l0.length : Int)
                  · rw [if_pos c34] at H
                    have c34b0 : decide (x56_3 < (l0.length : Int)) = true := decide_eq_true c34
                    clear c34
                    by_cases c35 : 0 ≤ x56_3
                    · rw [if_pos c35] at H
                      have c35b0 : decide (0 ≤ x56_3) = true := decide_eq_true c35
                      clear c35
                      by_cases c36 : x56_3 < (l0.length : Int)
                      · rw [if_pos c36] at H
                        have c36b0 : decide (x56_3 < (l0.length : Int)) = true := decide_eq_true c36
                        clear c36
                        by_cases c37 : (Int.tmod ((rd_T91 l0 x56_3).f0) 4) = 0
                        · rw [if_pos c37] at H
                          have c37b0 : ((Int.tmod ((rd_T91 l0 x56_3).f0) 4) == 0) = true := beq_iff_eq.mpr c37
                          have c37b1 : ((Int.tmod ((rd_T91 l0 x56_3).f0) 4) != 0) = false := bne_eq_false_iff_eq.mpr c37
                          clear c37
                          replace H := Option.bind_eq_some_iff.mp H
                          obtain ⟨⟨t848, t849, t850⟩, A380, H⟩ := H
                          replace H : (if (t848 = ((rd_T91 l0 x56_3).f1)) then (dasdlaw01_WireReturns.l1 k3 l0 (l0.length : Int) (wrap64 (x56_3 + 1)) t849 t850) else (some false)) = some r := H
                          have A38 := Aside0.mk A380
                          clear A380
                          by_cases c39 : (t848 = ((rd_T91 l0 x56_3).f1))
                          · rw [if_pos c39] at H
                            have c39b0 : (t848 == ((rd_T91 l0 x56_3).f1)) = true := beq_iff_eq.mpr c39
                            have c39b1 : (t848 != ((rd_T91 l0 x56_3).f1)) = false := bne_eq_false_iff_eq.mpr c39
                            clear c39
                            have H' := Aside0.mk H
                            clear H
                            have p846 : 0 ≤ (x56_3 : Int) := of_decide_eq_true (by first | (with_reducible assumption) | assumption)
                            have q846 : x56_3 < (l0.length : Int) := of_decide_eq_true (by first | (with_reducible assumption) | assumption)
                            obtain ⟨ad846, e846, hx846_0, hx846_1, hx846_2, hx846_3, hx846_4⟩ := at_T91 HR0.out x56_3 p846 q846
                            cases e846
                            replace hx846_0 := (HB.out.cell (World.block_lt_of_cell? w _ hx846_0)).trans hx846_0
                            replace hx846_1 := (HB.out.cell (World.block_lt_of_cell? w _ hx846_1)).trans hx846_1
                            replace hx846_2 := (HB.out.cell (World.block_lt_of_cell? w _ hx846_2)).trans hx846_2
                            replace hx846_3 := (HB.out.cell (World.block_lt_of_cell? w _ hx846_3)).trans hx846_3
                            replace hx846_4 := (HB.out.cell (World.block_lt_of_cell? w _ hx846_4)).trans hx846_4
                            replace p846 := eq_true p846
                            replace q846 := eq_true q846
                            try go_wp2_with (first | ((with_reducible refine gate_dst (N := 8) rfl ?_); refine box_event ?hg (N := 8) ?hd (cs := #[.int .u8 0, .int .u64 0, .int .i64 0, .bool false, .string (⟨#[]⟩ : ByteArray)]) (t := 91) ?hr ?_; (case hd => rfl); (case hg => rfl); (case hr => first | (go_simp; done) | (go_simp; rfl)); intro gb847 hg w40 hbox hb; have n0_ := Aside0.mk (IsS110.below (by repeat (first | (with_reducible first | exact HI836.out | apply IsS110.alloc | apply IsS110.drewN | apply IsS110.drew | apply IsS110.set_0 | apply IsS110.set_1) | exact HI836.out)) hb); have n1_ := Aside0.mk (below_step (by repeat (first | (with_reducible first | exact HB.out | apply below_alloc | apply pw_below_drewN | apply below_drew1 | refine below_set ?_ (IsS110.ge HI836.out)) | exact HB.out)) hb); have n2_ := Aside0.mk (hbox); have n3_ := Aside0.mk ((by rw [hg]; exact (below_size (by repeat (first | (with_reducible first | exact HB.out | apply below_alloc | apply pw_below_drewN | apply below_drew1 | refine below_set ?_ (IsS110.ge HI836.out)) | exact HB.out))) : w.heap.size ≤ gb847)); have n4_ := Aside0.mk ((by rw [hg]; exact (below_size (by repeat (first | (with_reducible first | exact HB.out | apply below_alloc | apply pw_below_drewN | apply below_drew1 | refine below_set ?_ (IsS110.ge HI836.out)) | exact HB.out))) : w.heap.size ≤ gb847)); have n5_ := Aside0.mk ((by rw [hg]; exact Nat.ne_of_lt (IsS110.lt (show IsS110 w _ g836 x837000_3 x837001_3 from by repeat (first | (with_reducible first | exact HI836.out | apply IsS110.alloc | apply IsS110.drewN | apply IsS110.drew | apply IsS110.set_0 | apply IsS110.set_1) | exact HI836.out))) : g836 ≠ gb847)); have n6_ := Aside0.mk ((by rw [hg]; exact Nat.ne_of_gt (IsS110.lt (show IsS110 w _ g836 x837000_3 x837001_3 from by repeat (first | (with_reducible first | exact HI836.out | apply IsS110.alloc | apply IsS110.drewN | apply IsS110.drew | apply IsS110.set_0 | apply IsS110.set_1) | exact HI836.out))) : gb847 ≠ g836)); clear HI836; clear HB; have HI836 := n0_; have HB := n1_; have BK847 := n2_; have GW847 := n3_; have GE847 := n4_; have NB836_847 := n5_; have NB847_836 := n6_; clear n0_ n1_ n2_ n3_ n4_ n5_ n6_; clear hb hbox hg; have hnb41 := NB847_836.out; have hnc41 := NB836_847.out; have hcz42_0 : w40.cell? ⟨gb847, 0, none⟩ = some (.int .u8 0) := (blk_cell BK847.out 0).trans rfl; have hcz42_1 : w40.cell? ⟨gb847, 1, none⟩ = some (.int .u64 0) := (blk_cell BK847.out 1).trans rfl; have hcz42_2 : w40.cell? ⟨gb847, 2, none⟩ = some (.int .i64 0) := (blk_cell BK847.out 2).trans rfl; have hcz42_3 : w40.cell? ⟨gb847, 3, none⟩ = some (.bool false) := (blk_cell BK847.out 3).trans rfl; have hcz42_4 : w40.cell? ⟨gb847, 4, none⟩ = some (.string (⟨#[]⟩ : ByteArray)) := (blk_cell BK847.out 4).trans rfl; have hfz42_0 := blk_frozen BK847.out 0; have hfz42_1 := blk_frozen BK847.out 1; have hfz42_2 := blk_frozen BK847.out 2; have hfz42_3 := blk_frozen BK847.out 3; have hfz42_4 := blk_frozen BK847.out 4))
                            have n0_ : Aside0 ((((((w40.setCell ⟨gb847, 0, none⟩ (.int .u8 ((rd_T91 l0 x56_3).f0))).setCell ⟨gb847, 1, none⟩ (.int .u64 ((rd_T91 l0 x56_3).f1))).setCell ⟨gb847, 2, none⟩ (.int .i64 ((rd_T91 l0 x56_3).f2))).setCell ⟨gb847, 3, none⟩ (.bool ((rd_T91 l0 x56_3).f3))).setCell ⟨gb847, 4, none⟩ (.string ((rd_T91 l0 x56_3).f4))).heap[gb847]? = some (.cells #[.int .u8 ((rd_T91 l0 x56_3).f0), .int .u64 ((rd_T91 l0 x56_3).f1), .int .i64 ((rd_T91 l0 x56_3).f2), .bool ((rd_T91 l0 x56_3).f3), .string ((rd_T91 l0 x56_3).f4)] 91 (0, 0))) := ⟨by (with_reducible repeat (first | refine blk_drewN ?_ _ | refine blk_drew ?_ | refine blk_alloc ?_ _)); refine blk_put (cs := #[.int .u8 ((rd_T91 l0 x56_3).f0), .int .u64 ((rd_T91 l0 x56_3).f1), .int .i64 ((rd_T91 l0 x56_3).f2), .bool ((rd_T91 l0 x56_3).f3), .string (⟨#[]⟩ : ByteArray)]) ?_ 4 _ rfl; (with_reducible repeat (first | refine blk_drewN ?_ _ | refine blk_drew ?_ | refine blk_alloc ?_ _)); refine blk_put (cs := #[.int .u8 ((rd_T91 l0 x56_3).f0), .int .u64 ((rd_T91 l0 x56_3).f1), .int .i64 ((rd_T91 l0 x56_3).f2), .bool false, .string (⟨#[]⟩ : ByteArray)]) ?_ 3 _ rfl; (with_reducible repeat (first | refine blk_drewN ?_ _ | refine blk_drew ?_ | refine blk_alloc ?_ _)); refine blk_put (cs := #[.int .u8 ((rd_T91 l0 x56_3).f0), .int .u64 ((rd_T91 l0 x56_3).f1), .int .i64 0, .bool false, .string (⟨#[]⟩ : ByteArray)]) ?_ 2 _ rfl; (with_reducible repeat (first | refine blk_drewN ?_ _ | refine blk_drew ?_ | refine blk_alloc ?_ _)); refine blk_put (cs := #[.int .u8 ((rd_T91 l0 x56_3).f0), .int .u64 0, .int .i64 0, .bool false, .string (⟨#[]⟩ : ByteArray)]) ?_ 1 _ rfl; (with_reducible repeat (first | refine blk_drewN ?_ _ | refine blk_drew ?_ | refine blk_alloc ?_ _)); refine blk_put (cs := #[.int .u8 0, .int .u64 0, .int .i64 0, .bool false, .string (⟨#[]⟩ : ByteArray)]) ?_ 0 _ rfl; (with_reducible repeat (first | refine blk_drewN ?_ _ | refine blk_drew ?_ | refine blk_alloc ?_ _)); exact BK847.out⟩
                            have n1_ : Aside0 (IsS110 w (((((w40.setCell ⟨gb847, 0, none⟩ (.int .u8 ((rd_T91 l0 x56_3).f0))).setCell ⟨gb847, 1, none⟩ (.int .u64 ((rd_T91 l0 x56_3).f1))).setCell ⟨gb847, 2, none⟩ (.int .i64 ((rd_T91 l0 x56_3).f2))).setCell ⟨gb847, 3, none⟩ (.bool ((rd_T91 l0 x56_3).f3))).setCell ⟨gb847, 4, none⟩ (.string ((rd_T91 l0 x56_3).f4))) g836 x837000_3 x837001_3) := ⟨by repeat (first | (with_reducible first | exact HI836.out | apply IsS110.alloc | apply IsS110.drewN | apply IsS110.drew | apply IsS110.set_0 | apply IsS110.set_1 | refine IsS110.far ?_ NB836_847.out _) | exact HI836.out)⟩
                            have n2_ : Aside0 (Below w.heap.size w (((((w40.setCell ⟨gb847, 0, none⟩ (.int .u8 ((rd_T91 l0 x56_3).f0))).setCell ⟨gb847, 1, none⟩ (.int .u64 ((rd_T91 l0 x56_3).f1))).setCell ⟨gb847, 2, none⟩ (.int .i64 ((rd_T91 l0 x56_3).f2))).setCell ⟨gb847, 3, none⟩ (.bool ((rd_T91 l0 x56_3).f3))).setCell ⟨gb847, 4, none⟩ (.string ((rd_T91 l0 x56_3).f4)))) := ⟨by repeat (first | (with_reducible first | exact HB.out | apply below_alloc | apply pw_below_drewN | apply below_drew1 | refine below_set ?_ (IsS110.ge HI836.out) | refine below_set ?_ GE847.out) | exact HB.out)⟩
                            (try clear BK847)
                            (try clear HI836)
                            (try clear HB)
                            generalize (((((w40.setCell ⟨gb847, 0, none⟩ (.int .u8 ((rd_T91 l0 x56_3).f0))).setCell ⟨gb847, 1, none⟩ (.int .u64 ((rd_T91 l0 x56_3).f1))).setCell ⟨gb847, 2, none⟩ (.int .i64 ((rd_T91 l0 x56_3).f2))).setCell ⟨gb847, 3, none⟩ (.bool ((rd_T91 l0 x56_3).f3))).setCell ⟨gb847, 4, none⟩ (.string ((rd_T91 l0 x56_3).f4))) = w43 at n0_ n1_ n2_ ⊢
                            have BK847 := n0_
                            have HI836 := n1_
                            have HB := n2_
                            clear n0_ n1_ n2_
                            have n0_ := Aside0.mk (blk_drew BK847.out)
                            have n1_ := Aside0.mk (IsS110.drew HI836.out)
                            have n2_ := Aside0.mk (below_drew1 HB.out)
                            clear BK847
                            clear HI836
                            clear HB
                            have BK847 := n0_
                            have HI836 := n1_
                            have HB := n2_
                            clear n0_ n1_ n2_
                            refine start_ (n := 6) (S := fun w' => w'.cell? ⟨gb847, 0, none⟩ = some (.int .u8 ((rd_T91 l0 x56_3).f0)) ∧ w'.cell? ⟨gb847, 1, none⟩ = some (.int .u64 ((rd_T91 l0 x56_3).f1)) ∧ w'.cell? ⟨gb847, 2, none⟩ = some (.int .i64 ((rd_T91 l0 x56_3).f2)) ∧ w'.cell? ⟨gb847, 3, none⟩ = some (.bool ((rd_T91 l0 x56_3).f3)) ∧ w'.cell? ⟨gb847, 4, none⟩ = some (.string ((rd_T91 l0 x56_3).f4))) (ds := []) #[false, false, false, false, false, false] (by kernel_rfl) rfl rfl ⟨(blk_cell BK847.out 0).trans rfl, (blk_cell BK847.out 1).trans rfl, (blk_cell BK847.out 2).trans rfl, (blk_cell BK847.out 3).trans rfl, (blk_cell BK847.out 4).trans rfl⟩ (fun hHeld => ?_)
                            generalize w43.drew = w44 at BK847 HI836 HB hHeld ⊢
                            refine pure_ (i := 0) (N := some 73) (v := ?_) (a' := ?_) #[true, false, false, false, false, false] rfl rfl (by kernel_rfl) (fun _ _ _ h => h) (Or.inl ⟨by rfl, ?_⟩) ?_ ?_
                            rotate_left
                            · intro w'
                              go_simp
                              with_reducible rfl
                            rotate_left
                            · simp only [Act.put, List.setIfInBounds_toArray, List.set_cons_zero, List.set_cons_succ, i64_w, i32_w]
                              rfl
                            refine pure_ (i := 2) (N := some 75) (v := ?_) (a' := ?_) #[true, false, true, false, false, false] rfl rfl (by kernel_rfl) (fun _ _ _ h => h) (Or.inl ⟨by rfl, ?_⟩) ?_ ?_
                            rotate_left
                            · intro w'
                              go_simp
                              with_reducible rfl
                            rotate_left
                            · simp only [Act.put, List.setIfInBounds_toArray, List.set_cons_zero, List.set_cons_succ, i64_w, i32_w]
                              rfl
                            refine take_ (i := 3) (N := some 76) (v := ?_) (a' := ?_) #[true, false, true, true, false, false] rfl rfl (by kernel_rfl) (fun _ _ _ h => h) (Or.inl ⟨by rfl, ?_⟩) hHeld ?_ ?_
                            rotate_left
                            · rintro w' ⟨s0, s1, s2, s3, s4⟩
                              go_simp
                              with_reducible rfl
                            rotate_left
                            · simp only [Act.put, List.setIfInBounds_toArray, List.set_cons_zero, List.set_cons_succ, i64_w, i32_w]
                              rfl
                            refine one_ (i := 1) (N := some 74) #[true, true, true, true, false, false] rfl rfl (by kernel_rfl) (by decide) (fun K hK => ?_)
                            refine goes_ Try.func71 (by kernel_rfl) rfl #[.pointer (some ⟨g836, 0, none⟩)] (by rfl) rfl rfl (by (try simp only [List.map_toArray, List.map_cons, List.map_nil]); first | done | rfl | (simp only [List.length_drop, List.length_take]; rfl)) ?_
                            with_reducible refine (wire_Reader_Number.calls g836 x837000_3 x837001_3 t848 t849 t850 w _ ?side1 ?side2 A38.out).mono ?_
                            (case side1 => repeat (first | (with_reducible first | exact HI836.out | apply IsS110.alloc | apply IsS110.drewN | apply IsS110.drew | apply IsS110.set_0 | apply IsS110.set_1 | refine IsS110.far ?_ NB836_847.out _) | exact HI836.out))
                            (case side2 => repeat (first | (with_reducible first | exact HB.out | apply below_alloc | apply pw_below_drewN | apply below_drew1 | refine below_set ?_ (IsS110.ge HI836.out) | refine below_set ?_ GE847.out) | exact HB.out))
                            rintro e w45 ⟨rfl, hi, hb, hk⟩
                            refine ⟨_, rfl, ?_⟩
                            have n0_ := Aside0.mk (KeepBut.blk hk (g' := gb847) (o := .cells #[.int .u8 ((rd_T91 l0 x56_3).f0), .int .u64 ((rd_T91 l0 x56_3).f1), .int .i64 ((rd_T91 l0 x56_3).f2), .bool ((rd_T91 l0 x56_3).f3), .string ((rd_T91 l0 x56_3).f4)] 91 (0, 0)) (by (with_reducible repeat (first | refine blk_drewN ?_ _ | refine blk_drew ?_ | refine blk_alloc ?_ _)); exact BK847.out) NB847_836.out (by simp))
                            have n1_ := Aside0.mk (hb)
                            have n2_ := Aside0.mk (hi)
                            clear BK847
                            clear HB
                            clear HI836
                            have BK847 := n0_
                            have HB := n1_
                            have HI836 := n2_
                            clear n0_ n1_ n2_
                            (try clear hb)
                            (try clear hb2)
                            (try clear hk)
                            (try clear hi)
                            refine hK.out _ _ ⟨(blk_cell BK847.out 0).trans rfl, (blk_cell BK847.out 1).trans rfl, (blk_cell BK847.out 2).trans rfl, (blk_cell BK847.out 3).trans rfl, (blk_cell BK847.out 4).trans rfl⟩ (fun hHeld => ?_)
                            clear hK K
                            refine norm_ (a' := ?_) ?_ ?_
                            rotate_left
                            · show Act.put _ (some 74) _ = _
                              simp only [Act.put, List.setIfInBounds_toArray, List.set_cons_zero, List.set_cons_succ, i64_w, i32_w]
                              rfl
                            refine pure_ (i := 4) (N := some 77) (v := ?_) (a' := ?_) #[true, true, true, true, true, false] rfl rfl (by kernel_rfl) (fun _ _ _ h => h) (Or.inl ⟨by rfl, ?_⟩) ?_ ?_
                            rotate_left
                            · intro w'
                              go_simp
                              with_reducible rfl
                            rotate_left
                            · simp only [Act.put, List.setIfInBounds_toArray, List.set_cons_zero, List.set_cons_succ, i64_w, i32_w]
                              rfl
                            refine pure_ (i := 5) (N := some 9) (v := ?_) (a' := ?_) #[true, true, true, true, true, true] rfl rfl (by kernel_rfl) (fun _ _ _ h => h) (Or.inl ⟨by rfl, ?_⟩) ?_ ?_
                            rotate_left
                            · intro w'
                              go_simp
                              with_reducible rfl
                            rotate_left
                            · simp only [Act.put, List.setIfInBounds_toArray, List.set_cons_zero, List.set_cons_succ, i64_w, i32_w]
                              rfl
                            refine done_ (by kernel_rfl) ?_
                            try go_wp2
                            go_roundg k3
                            case measure => have := HJ1.out; have := HK2.out; have := HK3.out; omega
                            case rel => exact ⟨(wrap64 (x56_3 + 1)), (t849), (t850), (by first | rfl | (simp; done) | (simp [*]; done)), H', ⟨by have := HJ1.out; have := HK2.out; have := HK3.out; omega⟩, ⟨by repeat (first | (with_reducible first | exact HI836.out | apply IsS110.alloc | apply IsS110.drewN | apply IsS110.drew | apply IsS110.set_0 | apply IsS110.set_1 | refine IsS110.far ?_ NB836_847.out _) | exact HI836.out)⟩, ⟨by repeat (first | (with_reducible first | exact HB.out | apply below_alloc | apply pw_below_drewN | apply below_drew1 | refine below_set ?_ (IsS110.ge HI836.out) | refine below_set ?_ GE847.out) | exact HB.out)⟩⟩
                          · rw [if_neg c39] at H
                            have c39b0 : (t848 == ((rd_T91 l0 x56_3).f1)) = false := beq_eq_false_iff_ne.mpr c39
                            have c39b1 : (t848 != ((rd_T91 l0 x56_3).f1)) = true := bne_iff_ne.mpr c39
                            obtain rfl := Option.some.inj H
                            have p846 : 0 ≤ (x56_3 : Int) := of_decide_eq_true (by first | (with_reducible assumption) | assumption)
                            have q846 : x56_3 < (l0.length : Int) := of_decide_eq_true (by first | (with_reducible assumption) | assumption)
                            obtain ⟨ad846, e846, hx846_0, hx846_1, hx846_2, hx846_3, hx846_4⟩ := at_T91 HR0.out x56_3 p846 q846
                            cases e846
                            replace hx846_0 := (HB.out.cell (World.block_lt_of_cell? w _ hx846_0)).trans hx846_0
                            replace hx846_1 := (HB.out.cell (World.block_lt_of_cell? w _ hx846_1)).trans hx846_1
                            replace hx846_2 := (HB.out.cell (World.block_lt_of_cell? w _ hx846_2)).trans hx846_2
                            replace hx846_3 := (HB.out.cell (World.block_lt_of_cell? w _ hx846_3)).trans hx846_3
                            replace hx846_4 := (HB.out.cell (World.block_lt_of_cell? w _ hx846_4)).trans hx846_4
                            replace p846 := eq_true p846
                            replace q846 := eq_true q846
                            try go_wp2_with (first | ((with_reducible refine gate_dst (N := 8) rfl ?_); refine box_event ?hg (N := 8) ?hd (cs := #[.int .u8 0, .int .u64 0, .int .i64 0, .bool false, .string (⟨#[]⟩ : ByteArray)]) (t := 91) ?hr ?_; (case hd => rfl); (case hg => rfl); (case hr => first | (go_simp; done) | (go_simp; rfl)); intro gb847 hg w46 hbox hb; have n0_ := Aside0.mk (IsS110.below (by repeat (first | (with_reducible first | exact HI836.out | apply IsS110.alloc | apply IsS110.drewN | apply IsS110.drew | apply IsS110.set_0 | apply IsS110.set_1) | exact HI836.out)) hb); have n1_ := Aside0.mk (below_step (by repeat (first | (with_reducible first | exact HB.out | apply below_alloc | apply pw_below_drewN | apply below_drew1 | refine below_set ?_ (IsS110.ge HI836.out)) | exact HB.out)) hb); have n2_ := Aside0.mk (hbox); have n3_ := Aside0.mk ((by rw [hg]; exact (below_size (by repeat (first | (with_reducible first | exact HB.out | apply below_alloc | apply pw_below_drewN | apply below_drew1 | refine below_set ?_ (IsS110.ge HI836.out)) | exact HB.out))) : w.heap.size ≤ gb847)); have n4_ := Aside0.mk ((by rw [hg]; exact (below_size (by repeat (first | (with_reducible first | exact HB.out | apply below_alloc | apply pw_below_drewN | apply below_drew1 | refine below_set ?_ (IsS110.ge HI836.out)) | exact HB.out))) : w.heap.size ≤ gb847)); have n5_ := Aside0.mk ((by rw [hg]; exact Nat.ne_of_lt (IsS110.lt (show IsS110 w _ g836 x837000_3 x837001_3 from by repeat (first | (with_reducible first | exact HI836.out | apply IsS110.alloc | apply IsS110.drewN | apply IsS110.drew | apply IsS110.set_0 | apply IsS110.set_1) | exact HI836.out))) : g836 ≠ gb847)); have n6_ := Aside0.mk ((by rw [hg]; exact Nat.ne_of_gt (IsS110.lt (show IsS110 w _ g836 x837000_3 x837001_3 from by repeat (first | (with_reducible first | exact HI836.out | apply IsS110.alloc | apply IsS110.drewN | apply IsS110.drew | apply IsS110.set_0 | apply IsS110.set_1) | exact HI836.out))) : gb847 ≠ g836)); clear HI836; clear HB; have HI836 := n0_; have HB := n1_; have BK847 := n2_; have GW847 := n3_; have GE847 := n4_; have NB836_847 := n5_; have NB847_836 := n6_; clear n0_ n1_ n2_ n3_ n4_ n5_ n6_; clear hb hbox hg; have hnb47 := NB847_836.out; have hnc47 := NB836_847.out; have hcz48_0 : w46.cell? ⟨gb847, 0, none⟩ = some (.int .u8 0) := (blk_cell BK847.out 0).trans rfl; have hcz48_1 : w46.cell? ⟨gb847, 1, none⟩ = some (.int .u64 0) := (blk_cell BK847.out 1).trans rfl; have hcz48_2 : w46.cell? ⟨gb847, 2, none⟩ = some (.int .i64 0) := (blk_cell BK847.out 2).trans rfl; have hcz48_3 : w46.cell? ⟨gb847, 3, none⟩ = some (.bool false) := (blk_cell BK847.out 3).trans rfl; have hcz48_4 : w46.cell? ⟨gb847, 4, none⟩ = some (.string (⟨#[]⟩ : ByteArray)) := (blk_cell BK847.out 4).trans rfl; have hfz48_0 := blk_frozen BK847.out 0; have hfz48_1 := blk_frozen BK847.out 1; have hfz48_2 := blk_frozen BK847.out 2; have hfz48_3 := blk_frozen BK847.out 3; have hfz48_4 := blk_frozen BK847.out 4))
                            have n0_ : Aside0 ((((((w46.setCell ⟨gb847, 0, none⟩ (.int .u8 ((rd_T91 l0 x56_3).f0))).setCell ⟨gb847, 1, none⟩ (.int .u64 ((rd_T91 l0 x56_3).f1))).setCell ⟨gb847, 2, none⟩ (.int .i64 ((rd_T91 l0 x56_3).f2))).setCell ⟨gb847, 3, none⟩ (.bool ((rd_T91 l0 x56_3).f3))).setCell ⟨gb847, 4, none⟩ (.string ((rd_T91 l0 x56_3).f4))).heap[gb847]? = some (.cells #[.int .u8 ((rd_T91 l0 x56_3).f0), .int .u64 ((rd_T91 l0 x56_3).f1), .int .i64 ((rd_T91 l0 x56_3).f2), .bool ((rd_T91 l0 x56_3).f3), .string ((rd_T91 l0 x56_3).f4)] 91 (0, 0))) := ⟨by (with_reducible repeat (first | refine blk_drewN ?_ _ | refine blk_drew ?_ | refine blk_alloc ?_ _)); refine blk_put (cs := #[.int .u8 ((rd_T91 l0 x56_3).f0), .int .u64 ((rd_T91 l0 x56_3).f1), .int .i64 ((rd_T91 l0 x56_3).f2), .bool ((rd_T91 l0 x56_3).f3), .string (⟨#[]⟩ : ByteArray)]) ?_ 4 _ rfl; (with_reducible repeat (first | refine blk_drewN ?_ _ | refine blk_drew ?_ | refine blk_alloc ?_ _)); refine blk_put (cs := #[.int .u8 ((rd_T91 l0 x56_3).f0), .int .u64 ((rd_T91 l0 x56_3).f1), .int .i64 ((rd_T91 l0 x56_3).f2), .bool false, .string (⟨#[]⟩ : ByteArray)]) ?_ 3 _ rfl; (with_reducible repeat (first | refine blk_drewN ?_ _ | refine blk_drew ?_ | refine blk_alloc ?_ _)); refine blk_put (cs := #[.int .u8 ((rd_T91 l0 x56_3).f0), .int .u64 ((rd_T91 l0 x56_3).f1), .int .i64 0, .bool false, .string (⟨#[]⟩ : ByteArray)]) ?_ 2 _ rfl; (with_reducible repeat (first | refine blk_drewN ?_ _ | refine blk_drew ?_ | refine blk_alloc ?_ _)); refine blk_put (cs := #[.int .u8 ((rd_T91 l0 x56_3).f0), .int .u64 0, .int .i64 0, .bool false, .string (⟨#[]⟩ : ByteArray)]) ?_ 1 _ rfl; (with_reducible repeat (first | refine blk_drewN ?_ _ | refine blk_drew ?_ | refine blk_alloc ?_ _)); refine blk_put (cs := #[.int .u8 0, .int .u64 0, .int .i64 0, .bool false, .string (⟨#[]⟩ : ByteArray)]) ?_ 0 _ rfl; (with_reducible repeat (first | refine blk_drewN ?_ _ | refine blk_drew ?_ | refine blk_alloc ?_ _)); exact BK847.out⟩
                            have n1_ : Aside0 (IsS110 w (((((w46.setCell ⟨gb847, 0, none⟩ (.int .u8 ((rd_T91 l0 x56_3).f0))).setCell ⟨gb847, 1, none⟩ (.int .u64 ((rd_T91 l0 x56_3).f1))).setCell ⟨gb847, 2, none⟩ (.int .i64 ((rd_T91 l0 x56_3).f2))).setCell ⟨gb847, 3, none⟩ (.bool ((rd_T91 l0 x56_3).f3))).setCell ⟨gb847, 4, none⟩ (.string ((rd_T91 l0 x56_3).f4))) g836 x837000_3 x837001_3) := ⟨by repeat (first | (with_reducible first | exact HI836.out | apply IsS110.alloc | apply IsS110.drewN | apply IsS110.drew | apply IsS110.set_0 | apply IsS110.set_1 | refine IsS110.far ?_ NB836_847.out _) | exact HI836.out)⟩
                            have n2_ : Aside0 (Below w.heap.size w (((((w46.setCell ⟨gb847, 0, none⟩ (.int .u8 ((rd_T91 l0 x56_3).f0))).setCell ⟨gb847, 1, none⟩ (.int .u64 ((rd_T91 l0 x56_3).f1))).setCell ⟨gb847, 2, none⟩ (.int .i64 ((rd_T91 l0 x56_3).f2))).setCell ⟨gb847, 3, none⟩ (.bool ((rd_T91 l0 x56_3).f3))).setCell ⟨gb847, 4, none⟩ (.string ((rd_T91 l0 x56_3).f4)))) := ⟨by repeat (first | (with_reducible first | exact HB.out | apply below_alloc | apply pw_below_drewN | apply below_drew1 | refine below_set ?_ (IsS110.ge HI836.out) | refine below_set ?_ GE847.out) | exact HB.out)⟩
                            (try clear BK847)
                            (try clear HI836)
                            (try clear HB)
                            generalize (((((w46.setCell ⟨gb847, 0, none⟩ (.int .u8 ((rd_T91 l0 x56_3).f0))).setCell ⟨gb847, 1, none⟩ (.int .u64 ((rd_T91 l0 x56_3).f1))).setCell ⟨gb847, 2, none⟩ (.int .i64 ((rd_T91 l0 x56_3).f2))).setCell ⟨gb847, 3, none⟩ (.bool ((rd_T91 l0 x56_3).f3))).setCell ⟨gb847, 4, none⟩ (.string ((rd_T91 l0 x56_3).f4))) = w49 at n0_ n1_ n2_ ⊢
                            have BK847 := n0_
                            have HI836 := n1_
                            have HB := n2_
                            clear n0_ n1_ n2_
                            have n0_ := Aside0.mk (blk_drew BK847.out)
                            have n1_ := Aside0.mk (IsS110.drew HI836.out)
                            have n2_ := Aside0.mk (below_drew1 HB.out)
                            clear BK847
                            clear HI836
                            clear HB
                            have BK847 := n0_
                            have HI836 := n1_
                            have HB := n2_
                            clear n0_ n1_ n2_
                            refine start_ (n := 6) (S := fun w' => w'.cell? ⟨gb847, 0, none⟩ = some (.int .u8 ((rd_T91 l0 x56_3).f0)) ∧ w'.cell? ⟨gb847, 1, none⟩ = some (.int .u64 ((rd_T91 l0 x56_3).f1)) ∧ w'.cell? ⟨gb847, 2, none⟩ = some (.int .i64 ((rd_T91 l0 x56_3).f2)) ∧ w'.cell? ⟨gb847, 3, none⟩ = some (.bool ((rd_T91 l0 x56_3).f3)) ∧ w'.cell? ⟨gb847, 4, none⟩ = some (.string ((rd_T91 l0 x56_3).f4))) (ds := []) #[false, false, false, false, false, false] (by kernel_rfl) rfl rfl ⟨(blk_cell BK847.out 0).trans rfl, (blk_cell BK847.out 1).trans rfl, (blk_cell BK847.out 2).trans rfl, (blk_cell BK847.out 3).trans rfl, (blk_cell BK847.out 4).trans rfl⟩ (fun hHeld => ?_)
                            generalize w49.drew = w50 at BK847 HI836 HB hHeld ⊢
                            refine pure_ (i := 0) (N := some 73) (v := ?_) (a' := ?_) #[true, false, false, false, false, false] rfl rfl (by kernel_rfl) (fun _ _ _ h => h) (Or.inl ⟨by rfl, ?_⟩) ?_ ?_
                            rotate_left
                            · intro w'
                              go_simp
                              with_reducible rfl
                            rotate_left
                            · simp only [Act.put, List.setIfInBounds_toArray, List.set_cons_zero, List.set_cons_succ, i64_w, i32_w]
                              rfl
                            refine pure_ (i := 2) (N := some 75) (v := ?_) (a' := ?_) #[true, false, true, false, false, false] rfl rfl (by kernel_rfl) (fun _ _ _ h => h) (Or.inl ⟨by rfl, ?_⟩) ?_ ?_
                            rotate_left
                            · intro w'
                              go_simp
                              with_reducible rfl
                            rotate_left
                            · simp only [Act.put, List.setIfInBounds_toArray, List.set_cons_zero, List.set_cons_succ, i64_w, i32_w]
                              rfl
                            refine take_ (i := 3) (N := some 76) (v := ?_) (a' := ?_) #[true, false, true, true, false, false] rfl rfl (by kernel_rfl) (fun _ _ _ h => h) (Or.inl ⟨by rfl, ?_⟩) hHeld ?_ ?_
                            rotate_left
                            · rintro w' ⟨s0, s1, s2, s3, s4⟩
                              go_simp
                              with_reducible rfl
                            rotate_left
                            · simp only [Act.put, List.setIfInBounds_toArray, List.set_cons_zero, List.set_cons_succ, i64_w, i32_w]
                              rfl
                            refine one_ (i := 1) (N := some 74) #[true, true, true, true, false, false] rfl rfl (by kernel_rfl) (by decide) (fun K hK => ?_)
                            refine goes_ Try.func71 (by kernel_rfl) rfl #[.pointer (some ⟨g836, 0, none⟩)] (by rfl) rfl rfl (by (try simp only [List.map_toArray, List.map_cons, List.map_nil]); first | done | rfl | (simp only [List.length_drop, List.length_take]; rfl)) ?_
                            with_reducible refine (wire_Reader_Number.calls g836 x837000_3 x837001_3 t848 t849 t850 w _ ?side1 ?side2 A38.out).mono ?_
                            (case side1 => repeat (first | (with_reducible first | exact HI836.out | apply IsS110.alloc | apply IsS110.drewN | apply IsS110.drew | apply IsS110.set_0 | apply IsS110.set_1 | refine IsS110.far ?_ NB836_847.out _) | exact HI836.out))
                            (case side2 => repeat (first | (with_reducible first | exact HB.out | apply below_alloc | apply pw_below_drewN | apply below_drew1 | refine below_set ?_ (IsS110.ge HI836.out) | refine below_set ?_ GE847.out) | exact HB.out))
                            rintro e w51 ⟨rfl, hi, hb, hk⟩
                            refine ⟨_, rfl, ?_⟩
                            have n0_ := Aside0.mk (KeepBut.blk hk (g' := gb847) (o := .cells #[.int .u8 ((rd_T91 l0 x56_3).f0), .int .u64 ((rd_T91 l0 x56_3).f1), .int .i64 ((rd_T91 l0 x56_3).f2), .bool ((rd_T91 l0 x56_3).f3), .string ((rd_T91 l0 x56_3).f4)] 91 (0, 0)) (by (with_reducible repeat (first | refine blk_drewN ?_ _ | refine blk_drew ?_ | refine blk_alloc ?_ _)); exact BK847.out) NB847_836.out (by simp))
                            have n1_ := Aside0.mk (hb)
                            have n2_ := Aside0.mk (hi)
                            clear BK847
                            clear HB
                            clear HI836
                            have BK847 := n0_
                            have HB := n1_
                            have HI836 := n2_
                            clear n0_ n1_ n2_
                            (try clear hb)
                            (try clear hb2)
                            (try clear hk)
                            (try clear hi)
                            refine hK.out _ _ ⟨(blk_cell BK847.out 0).trans rfl, (blk_cell BK847.out 1).trans rfl, (blk_cell BK847.out 2).trans rfl, (blk_cell BK847.out 3).trans rfl, (blk_cell BK847.out 4).trans rfl⟩ (fun hHeld => ?_)
                            clear hK K
                            refine norm_ (a' := ?_) ?_ ?_
                            rotate_left
                            · show Act.put _ (some 74) _ = _
                              simp only [Act.put, List.setIfInBounds_toArray, List.set_cons_zero, List.set_cons_succ, i64_w, i32_w]
                              rfl
                            refine pure_ (i := 4) (N := some 77) (v := ?_) (a' := ?_) #[true, true, true, true, true, false] rfl rfl (by kernel_rfl) (fun _ _ _ h => h) (Or.inl ⟨by rfl, ?_⟩) ?_ ?_
                            rotate_left
                            · intro w'
                              go_simp
                              with_reducible rfl
                            rotate_left
                            · simp only [Act.put, List.setIfInBounds_toArray, List.set_cons_zero, List.set_cons_succ, i64_w, i32_w]
                              rfl
                            refine pure_ (i := 5) (N := some 9) (v := ?_) (a' := ?_) #[true, true, true, true, true, true] rfl rfl (by kernel_rfl) (fun _ _ _ h => h) (Or.inl ⟨by rfl, ?_⟩) ?_ ?_
                            rotate_left
                            · intro w'
                              go_simp
                              with_reducible rfl
                            rotate_left
                            · simp only [Act.put, List.setIfInBounds_toArray, List.set_cons_zero, List.set_cons_succ, i64_w, i32_w]
                              rfl
                            refine done_ (by kernel_rfl) ?_
                            try go_wp2
                            go_ret
                            exact ⟨by first | rfl | (simp [errW_none, errW_some] <;> rfl) | (simp [*, errW_none, errW_some] <;> rfl), by repeat (first | (with_reducible first | exact HB.out | apply below_alloc | apply pw_below_drewN | apply below_drew1 | refine below_set ?_ (IsS110.ge HI836.out) | refine below_set ?_ GE847.out) | exact HB.out)⟩
                        · rw [if_neg c37] at H
                          have c37b0 : ((Int.tmod ((rd_T91 l0 x56_3).f0) 4) == 0) = false := beq_eq_false_iff_ne.mpr c37
                          have c37b1 : ((Int.tmod ((rd_T91 l0 x56_3).f0) 4) != 0) = true := bne_iff_ne.mpr c37
                          by_cases c52 : (Int.tmod ((rd_T91 l0 x56_3).f0) 4) = 1
                          · rw [if_pos c52] at H
                            have c52b0 : ((Int.tmod ((rd_T91 l0 x56_3).f0) 4) == 1) = true := beq_iff_eq.mpr c52
                            have c52b1 : ((Int.tmod ((rd_T91 l0 x56_3).f0) 4) != 1) = false := bne_eq_false_iff_eq.mpr c52
                            clear c52
                            replace H := Option.bind_eq_some_iff.mp H
                            obtain ⟨⟨t851, t852, t853⟩, A530, H⟩ := H
                            replace H : (if (t851 = ((rd_T91 l0 x56_3).f2)) then (dasdlaw01_WireReturns.l1 k3 l0 (l0.length : Int) (wrap64 (x56_3 + 1)) t852 t853) else (some false)) = some r := H
                            have A53 := Aside0.mk A530
                            clear A530
                            by_cases c54 : (t851 = ((rd_T91 l0 x56_3).f2))
                            · rw [if_pos c54] at H
                              have c54b0 : (t851 == ((rd_T91 l0 x56_3).f2)) = true := beq_iff_eq.mpr c54
                              have c54b1 : (t851 != ((rd_T91 l0 x56_3).f2)) = false := bne_eq_false_iff_eq.mpr c54
                              clear c54
                              have H' := Aside0.mk H
                              clear H
                              have p846 : 0 ≤ (x56_3 : Int) := of_decide_eq_true (by first | (with_reducible assumption) | assumption)
                              have q846 : x56_3 < (l0.length : Int) := of_decide_eq_true (by first | (with_reducible assumption) | assumption)
                              obtain ⟨ad846, e846, hx846_0, hx846_1, hx846_2, hx846_3, hx846_4⟩ := at_T91 HR0.out x56_3 p846 q846
                              cases e846
                              replace hx846_0 := (HB.out.cell (World.block_lt_of_cell? w _ hx846_0)).trans hx846_0
                              replace hx846_1 := (HB.out.cell (World.block_lt_of_cell? w _ hx846_1)).trans hx846_1
                              replace hx846_2 := (HB.out.cell (World.block_lt_of_cell? w _ hx846_2)).trans hx846_2
                              replace hx846_3 := (HB.out.cell (World.block_lt_of_cell? w _ hx846_3)).trans hx846_3
                              replace hx846_4 := (HB.out.cell (World.block_lt_of_cell? w _ hx846_4)).trans hx846_4
                              replace p846 := eq_true p846
                              replace q846 := eq_true q846
                              try go_wp2_with (first | ((with_reducible refine gate_dst (N := 8) rfl ?_); refine box_event ?hg (N := 8) ?hd (cs := #[.int .u8 0, .int .u64 0, .int .i64 0, .bool false, .string (⟨#[]⟩ : ByteArray)]) (t := 91) ?hr ?_; (case hd => rfl); (case hg => rfl); (case hr => first | (go_simp; done) | (go_simp; rfl)); intro gb847 hg w55 hbox hb; have n0_ := Aside0.mk (IsS110.below (by repeat (first | (with_reducible first | exact HI836.out | apply IsS110.alloc | apply IsS110.drewN | apply IsS110.drew | apply IsS110.set_0 | apply IsS110.set_1) | exact HI836.out)) hb); have n1_ := Aside0.mk (below_step (by repeat (first | (with_reducible first | exact HB.out | apply below_alloc | apply pw_below_drewN | apply below_drew1 | refine below_set ?_ (IsS110.ge HI836.out)) | exact HB.out)) hb); have n2_ := Aside0.mk (hbox); have n3_ := Aside0.mk ((by rw [hg]; exact (below_size (by repeat (first | (with_reducible first | exact HB.out | apply below_alloc | apply pw_below_drewN | apply below_drew1 | refine below_set ?_ (IsS110.ge HI836.out)) | exact HB.out))) : w.heap.size ≤ gb847)); have n4_ := Aside0.mk ((by rw [hg]; exact (below_size (by repeat (first | (with_reducible first | exact HB.out | apply below_alloc | apply pw_below_drewN | apply below_drew1 | refine below_set ?_ (IsS110.ge HI836.out)) | exact HB.out))) : w.heap.size ≤ gb847)); have n5_ := Aside0.mk ((by rw [hg]; exact Nat.ne_of_lt (IsS110.lt (show IsS110 w _ g836 x837000_3 x837001_3 from by repeat (first | (with_reducible first | exact HI836.out | apply IsS110.alloc | apply IsS110.drewN | apply IsS110.drew | apply IsS110.set_0 | apply IsS110.set_1) | exact HI836.out))) : g836 ≠ gb847)); have n6_ := Aside0.mk ((by rw [hg]; exact Nat.ne_of_gt (IsS110.lt (show IsS110 w _ g836 x837000_3 x837001_3 from by repeat (first | (with_reducible first | exact HI836.out | apply IsS110.alloc | apply IsS110.drewN | apply IsS110.drew | apply IsS110.set_0 | apply IsS110.set_1) | exact HI836.out))) : gb847 ≠ g836)); clear HI836; clear HB; have HI836 := n0_; have HB := n1_; have BK847 := n2_; have GW847 := n3_; have GE847 := n4_; have NB836_847 := n5_; have NB847_836 := n6_; clear n0_ n1_ n2_ n3_ n4_ n5_ n6_; clear hb hbox hg; have hnb56 := NB847_836.out; have hnc56 := NB836_847.out; have hcz57_0 : w55.cell? ⟨gb847, 0, none⟩ = some (.int .u8 0) := (blk_cell BK847.out 0).trans rfl; have hcz57_1 : w55.cell? ⟨gb847, 1, none⟩ = some (.int .u64 0) := (blk_cell BK847.out 1).trans rfl; have hcz57_2 : w55.cell? ⟨gb847, 2, none⟩ = some (.int .i64 0) := (blk_cell BK847.out 2).trans rfl; have hcz57_3 : w55.cell? ⟨gb847, 3, none⟩ = some (.bool false) := (blk_cell BK847.out 3).trans rfl; have hcz57_4 : w55.cell? ⟨gb847, 4, none⟩ = some (.string (⟨#[]⟩ : ByteArray)) := (blk_cell BK847.out 4).trans rfl; have hfz57_0 := blk_frozen BK847.out 0; have hfz57_1 := blk_frozen BK847.out 1; have hfz57_2 := blk_frozen BK847.out 2; have hfz57_3 := blk_frozen BK847.out 3; have hfz57_4 := blk_frozen BK847.out 4))
                              have n0_ : Aside0 ((((((w55.setCell ⟨gb847, 0, none⟩ (.int .u8 ((rd_T91 l0 x56_3).f0))).setCell ⟨gb847, 1, none⟩ (.int .u64 ((rd_T91 l0 x56_3).f1))).setCell ⟨gb847, 2, none⟩ (.int .i64 ((rd_T91 l0 x56_3).f2))).setCell ⟨gb847, 3, none⟩ (.bool ((rd_T91 l0 x56_3).f3))).setCell ⟨gb847, 4, none⟩ (.string ((rd_T91 l0 x56_3).f4))).heap[gb847]? = some (.cells #[.int .u8 ((rd_T91 l0 x56_3).f0), .int .u64 ((rd_T91 l0 x56_3).f1), .int .i64 ((rd_T91 l0 x56_3).f2), .bool ((rd_T91 l0 x56_3).f3), .string ((rd_T91 l0 x56_3).f4)] 91 (0, 0))) := ⟨by (with_reducible repeat (first | refine blk_drewN ?_ _ | refine blk_drew ?_ | refine blk_alloc ?_ _)); refine blk_put (cs := #[.int .u8 ((rd_T91 l0 x56_3).f0), .int .u64 ((rd_T91 l0 x56_3).f1), .int .i64 ((rd_T91 l0 x56_3).f2), .bool ((rd_T91 l0 x56_3).f3), .string (⟨#[]⟩ : ByteArray)]) ?_ 4 _ rfl; (with_reducible repeat (first | refine blk_drewN ?_ _ | refine blk_drew ?_ | refine blk_alloc ?_ _)); refine blk_put (cs := #[.int .u8 ((rd_T91 l0 x56_3).f0), .int .u64 ((rd_T91 l0 x56_3).f1), .int .i64 ((rd_T91 l0 x56_3).f2), .bool false, .string (⟨#[]⟩ : ByteArray)]) ?_ 3 _ rfl; (with_reducible repeat (first | refine blk_drewN ?_ _ | refine blk_drew ?_ | refine blk_alloc ?_ _)); refine blk_put (cs := #[.int .u8 ((rd_T91 l0 x56_3).f0), .int .u64 ((rd_T91 l0 x56_3).f1), .int .i64 0, .bool false, .string (⟨#[]⟩ : ByteArray)]) ?_ 2 _ rfl; (with_reducible repeat (first | refine blk_drewN ?_ _ | refine blk_drew ?_ | refine blk_alloc ?_ _)); refine blk_put (cs := #[.int .u8 ((rd_T91 l0 x56_3).f0), .int .u64 0, .int .i64 0, .bool false, .string (⟨#[]⟩ : ByteArray)]) ?_ 1 _ rfl; (with_reducible repeat (first | refine blk_drewN ?_ _ | refine blk_drew ?_ | refine blk_alloc ?_ _)); refine blk_put (cs := #[.int .u8 0, .int .u64 0, .int .i64 0, .bool false, .string (⟨#[]⟩ : ByteArray)]) ?_ 0 _ rfl; (with_reducible repeat (first | refine blk_drewN ?_ _ | refine blk_drew ?_ | refine blk_alloc ?_ _)); exact BK847.out⟩
                              have n1_ : Aside0 (IsS110 w (((((w55.setCell ⟨gb847, 0, none⟩ (.int .u8 ((rd_T91 l0 x56_3).f0))).setCell ⟨gb847, 1, none⟩ (.int .u64 ((rd_T91 l0 x56_3).f1))).setCell ⟨gb847, 2, none⟩ (.int .i64 ((rd_T91 l0 x56_3).f2))).setCell ⟨gb847, 3, none⟩ (.bool ((rd_T91 l0 x56_3).f3))).setCell ⟨gb847, 4, none⟩ (.string ((rd_T91 l0 x56_3).f4))) g836 x837000_3 x837001_3) := ⟨by repeat (first | (with_reducible first | exact HI836.out | apply IsS110.alloc | apply IsS110.drewN | apply IsS110.drew | apply IsS110.set_0 | apply IsS110.set_1 | refine IsS110.far ?_ NB836_847.out _) | exact HI836.out)⟩
                              have n2_ : Aside0 (Below w.heap.size w (((((w55.setCell ⟨gb847, 0, none⟩ (.int .u8 ((rd_T91 l0 x56_3).f0))).setCell ⟨gb847, 1, none⟩ (.int .u64 ((rd_T91 l0 x56_3).f1))).setCell ⟨gb847, 2, none⟩ (.int .i64 ((rd_T91 l0 x56_3).f2))).setCell ⟨gb847, 3, none⟩ (.bool ((rd_T91 l0 x56_3).f3))).setCell ⟨gb847, 4, none⟩ (.string ((rd_T91 l0 x56_3).f4)))) := ⟨by repeat (first | (with_reducible first | exact HB.out | apply below_alloc | apply pw_below_drewN | apply below_drew1 | refine below_set ?_ (IsS110.ge HI836.out) | refine below_set ?_ GE847.out) | exact HB.out)⟩
                              (try clear BK847)
                              (try clear HI836)
                              (try clear HB)
                              generalize (((((w55.setCell ⟨gb847, 0, none⟩ (.int .u8 ((rd_T91 l0 x56_3).f0))).setCell ⟨gb847, 1, none⟩ (.int .u64 ((rd_T91 l0 x56_3).f1))).setCell ⟨gb847, 2, none⟩ (.int .i64 ((rd_T91 l0 x56_3).f2))).setCell ⟨gb847, 3, none⟩ (.bool ((rd_T91 l0 x56_3).f3))).setCell ⟨gb847, 4, none⟩ (.string ((rd_T91 l0 x56_3).f4))) = w58 at n0_ n1_ n2_ ⊢
                              have BK847 := n0_
                              have HI836 := n1_
                              have HB := n2_
                              clear n0_ n1_ n2_
                              have n0_ := Aside0.mk (blk_drew BK847.out)
                              have n1_ := Aside0.mk (IsS110.drew HI836.out)
                              have n2_ := Aside0.mk (below_drew1 HB.out)
                              clear BK847
                              clear HI836
                              clear HB
                              have BK847 := n0_
                              have HI836 := n1_
                              have HB := n2_
                              clear n0_ n1_ n2_
                              refine start_ (n := 6) (S := fun w' => w'.cell? ⟨gb847, 0, none⟩ = some (.int .u8 ((rd_T91 l0 x56_3).f0)) ∧ w'.cell? ⟨gb847, 1, none⟩ = some (.int .u64 ((rd_T91 l0 x56_3).f1)) ∧ w'.cell? ⟨gb847, 2, none⟩ = some (.int .i64 ((rd_T91 l0 x56_3).f2)) ∧ w'.cell? ⟨gb847, 3, none⟩ = some (.bool ((rd_T91 l0 x56_3).f3)) ∧ w'.cell? ⟨gb847, 4, none⟩ = some (.string ((rd_T91 l0 x56_3).f4))) (ds := []) #[false, false, false, false, false, false] (by kernel_rfl) rfl rfl ⟨(blk_cell BK847.out 0).trans rfl, (blk_cell BK847.out 1).trans rfl, (blk_cell BK847.out 2).trans rfl, (blk_cell BK847.out 3).trans rfl, (blk_cell BK847.out 4).trans rfl⟩ (fun hHeld => ?_)
                              generalize w58.drew = w59 at BK847 HI836 HB hHeld ⊢
                              refine pure_ (i := 0) (N := some 80) (v := ?_) (a' := ?_) #[true, false, false, false, false, false] rfl rfl (by kernel_rfl) (fun _ _ _ h => h) (Or.inl ⟨by rfl, ?_⟩) ?_ ?_
                              rotate_left
                              · intro w'
                                go_simp
                                with_reducible rfl
                              rotate_left
                              · simp only [Act.put, List.setIfInBounds_toArray, List.set_cons_zero, List.set_cons_succ, i64_w, i32_w]
                                rfl
                              refine pure_ (i := 2) (N := some 82) (v := ?_) (a' := ?_) #[true, false, true, false, false, false] rfl rfl (by kernel_rfl) (fun _ _ _ h => h) (Or.inl ⟨by rfl, ?_⟩) ?_ ?_
                              rotate_left
                              · intro w'
                                go_simp
                                with_reducible rfl
                              rotate_left
                              · simp only [Act.put, List.setIfInBounds_toArray, List.set_cons_zero, List.set_cons_succ, i64_w, i32_w]
                                rfl
                              refine take_ (i := 3) (N := some 83) (v := ?_) (a' := ?_) #[true, false, true, true, false, false] rfl rfl (by kernel_rfl) (fun _ _ _ h => h) (Or.inl ⟨by rfl, ?_⟩) hHeld ?_ ?_
                              rotate_left
                              · rintro w' ⟨s0, s1, s2, s3, s4⟩
                                go_simp
                                with_reducible rfl
                              rotate_left
                              · simp only [Act.put, List.setIfInBounds_toArray, List.set_cons_zero, List.set_cons_succ, i64_w, i32_w]
                                rfl
                              refine one_ (i := 1) (N := some 81) #[true, true, true, true, false, false] rfl rfl (by kernel_rfl) (by decide) (fun K hK => ?_)
                              refine goes_ Try.func73 (by kernel_rfl) rfl #[.pointer (some ⟨g836, 0, none⟩)] (by rfl) rfl rfl (by (try simp only [List.map_toArray, List.map_cons, List.map_nil]); first | done | rfl | (simp only [List.length_drop, List.length_take]; rfl)) ?_
                              with_reducible refine (wire_Reader_Int.calls g836 x837000_3 x837001_3 t851 t852 t853 w _ ?side1 ?side2 A53.out).mono ?_
                              (case side1 => repeat (first | (with_reducible first | exact HI836.out | apply IsS110.alloc | apply IsS110.drewN | apply IsS110.drew | apply IsS110.set_0 | apply IsS110.set_1 | refine IsS110.far ?_ NB836_847.out _) | exact HI836.out))
                              (case side2 => repeat (first | (with_reducible first | exact HB.out | apply below_alloc | apply pw_below_drewN | apply below_drew1 | refine below_set ?_ (IsS110.ge HI836.out) | refine below_set ?_ GE847.out) | exact HB.out))
                              rintro e w60 ⟨rfl, hi, hb, hk⟩
                              refine ⟨_, rfl, ?_⟩
                              have n0_ := Aside0.mk (KeepBut.blk hk (g' := gb847) (o := .cells #[.int .u8 ((rd_T91 l0 x56_3).f0), .int .u64 ((rd_T91 l0 x56_3).f1), .int .i64 ((rd_T91 l0 x56_3).f2), .bool ((rd_T91 l0 x56_3).f3), .string ((rd_T91 l0 x56_3).f4)] 91 (0, 0)) (by (with_reducible repeat (first | refine blk_drewN ?_ _ | refine blk_drew ?_ | refine blk_alloc ?_ _)); exact BK847.out) NB847_836.out (by simp))
                              have n1_ := Aside0.mk (hb)
                              have n2_ := Aside0.mk (hi)
                              clear BK847
                              clear HB
                              clear HI836
                              have BK847 := n0_
                              have HB := n1_
                              have HI836 := n2_
                              clear n0_ n1_ n2_
                              (try clear hb)
                              (try clear hb2)
                              (try clear hk)
                              (try clear hi)
                              refine hK.out _ _ ⟨(blk_cell BK847.out 0).trans rfl, (blk_cell BK847.out 1).trans rfl, (blk_cell BK847.out 2).trans rfl, (blk_cell BK847.out 3).trans rfl, (blk_cell BK847.out 4).trans rfl⟩ (fun hHeld => ?_)
                              clear hK K
                              refine norm_ (a' := ?_) ?_ ?_
                              rotate_left
                              · show Act.put _ (some 81) _ = _
                                simp only [Act.put, List.setIfInBounds_toArray, List.set_cons_zero, List.set_cons_succ, i64_w, i32_w]
                                rfl
                              refine pure_ (i := 4) (N := some 84) (v := ?_) (a' := ?_) #[true, true, true, true, true, false] rfl rfl (by kernel_rfl) (fun _ _ _ h => h) (Or.inl ⟨by rfl, ?_⟩) ?_ ?_
                              rotate_left
                              · intro w'
                                go_simp
                                with_reducible rfl
                              rotate_left
                              · simp only [Act.put, List.setIfInBounds_toArray, List.set_cons_zero, List.set_cons_succ, i64_w, i32_w]
                                rfl
                              refine pure_ (i := 5) (N := some 9) (v := ?_) (a' := ?_) #[true, true, true, true, true, true] rfl rfl (by kernel_rfl) (fun _ _ _ h => h) (Or.inl ⟨by rfl, ?_⟩) ?_ ?_
                              rotate_left
                              · intro w'
                                go_simp
                                with_reducible rfl
                              rotate_left
                              · simp only [Act.put, List.setIfInBounds_toArray, List.set_cons_zero, List.set_cons_succ, i64_w, i32_w]
                                rfl
                              refine done_ (by kernel_rfl) ?_
                              try go_wp2
                              go_roundg k3
                              case measure => have := HJ1.out; have := HK2.out; have := HK3.out; omega
                              case rel => exact ⟨(wrap64 (x56_3 + 1)), (t852), (t853), (by first | rfl | (simp; done) | (simp [*]; done)), H', ⟨by have := HJ1.out; have := HK2.out; have := HK3.out; omega⟩, ⟨by repeat (first | (with_reducible first | exact HI836.out | apply IsS110.alloc | apply IsS110.drewN | apply IsS110.drew | apply IsS110.set_0 | apply IsS110.set_1 | refine IsS110.far ?_ NB836_847.out _) | exact HI836.out)⟩, ⟨by repeat (first | (with_reducible first | exact HB.out | apply below_alloc | apply pw_below_drewN | apply below_drew1 | refine below_set ?_ (IsS110.ge HI836.out) | refine below_set ?_ GE847.out) | exact HB.out)⟩⟩
                            · rw [if_neg c54] at H
                              have c54b0 : (t851 == ((rd_T91 l0 x56_3).f2)) = false := beq_eq_false_iff_ne.mpr c54
                              have c54b1 : (t851 != ((rd_T91 l0 x56_3).f2)) = true := bne_iff_ne.mpr c54
                              obtain rfl := Option.some.inj H
                              have p846 : 0 ≤ (x56_3 : Int) := of_decide_eq_true (by first | (with_reducible assumption) | assumption)
                              have q846 : x56_3 < (l0.length : Int) := of_decide_eq_true (by first | (with_reducible assumption) | assumption)
                              obtain ⟨ad846, e846, hx846_0, hx846_1, hx846_2, hx846_3, hx846_4⟩ := at_T91 HR0.out x56_3 p846 q846
                              cases e846
                              replace hx846_0 := (HB.out.cell (World.block_lt_of_cell? w _ hx846_0)).trans hx846_0
                              replace hx846_1 := (HB.out.cell (World.block_lt_of_cell? w _ hx846_1)).trans hx846_1
                              replace hx846_2 := (HB.out.cell (World.block_lt_of_cell? w _ hx846_2)).trans hx846_2
                              replace hx846_3 := (HB.out.cell (World.block_lt_of_cell? w _ hx846_3)).trans hx846_3
                              replace hx846_4 := (HB.out.cell (World.block_lt_of_cell? w _ hx846_4)).trans hx846_4
                              replace p846 := eq_true p846
                              replace q846 := eq_true q846
                              try go_wp2_with (first | ((with_reducible refine gate_dst (N := 8) rfl ?_); refine box_event ?hg (N := 8) ?hd (cs := #[.int .u8 0, .int .u64 0, .int .i64 0, .bool false, .string (⟨#[]⟩ : ByteArray)]) (t := 91) ?hr ?_; (case hd => rfl); (case hg => rfl); (case hr => first | (go_simp; done) | (go_simp; rfl)); intro gb847 hg w61 hbox hb; have n0_ := Aside0.mk (IsS110.below (by repeat (first | (with_reducible first | exact HI836.out | apply IsS110.alloc | apply IsS110.drewN | apply IsS110.drew | apply IsS110.set_0 | apply IsS110.set_1) | exact HI836.out)) hb); have n1_ := Aside0.mk (below_step (by repeat (first | (with_reducible first | exact HB.out | apply below_alloc | apply pw_below_drewN | apply below_drew1 | refine below_set ?_ (IsS110.ge HI836.out)) | exact HB.out)) hb); have n2_ := Aside0.mk (hbox); have n3_ := Aside0.mk ((by rw [hg]; exact (below_size (by repeat (first | (with_reducible first | exact HB.out | apply below_alloc | apply pw_below_drewN | apply below_drew1 | refine below_set ?_ (IsS110.ge HI836.out)) | exact HB.out))) : w.heap.size ≤ gb847)); have n4_ := Aside0.mk ((by rw [hg]; exact (below_size (by repeat (first | (with_reducible first | exact HB.out | apply below_alloc | apply pw_below_drewN | apply below_drew1 | refine below_set ?_ (IsS110.ge HI836.out)) | exact HB.out))) : w.heap.size ≤ gb847)); have n5_ := Aside0.mk ((by rw [hg]; exact Nat.ne_of_lt (IsS110.lt (show IsS110 w _ g836 x837000_3 x837001_3 from by repeat (first | (with_reducible first | exact HI836.out | apply IsS110.alloc | apply IsS110.drewN | apply IsS110.drew | apply IsS110.set_0 | apply IsS110.set_1) | exact HI836.out))) : g836 ≠ gb847)); have n6_ := Aside0.mk ((by rw [hg]; exact Nat.ne_of_gt (IsS110.lt (show IsS110 w _ g836 x837000_3 x837001_3 from by repeat (first | (with_reducible first | exact HI836.out | apply IsS110.alloc | apply IsS110.drewN | apply IsS110.drew | apply IsS110.set_0 | apply IsS110.set_1) | exact HI836.out))) : gb847 ≠ g836)); clear HI836; clear HB; have HI836 := n0_; have HB := n1_; have BK847 := n2_; have GW847 := n3_; have GE847 := n4_; have NB836_847 := n5_; have NB847_836 := n6_; clear n0_ n1_ n2_ n3_ n4_ n5_ n6_; clear hb hbox hg; have hnb62 := NB847_836.out; have hnc62 := NB836_847.out; have hcz63_0 : w61.cell? ⟨gb847, 0, none⟩ = some (.int .u8 0) := (blk_cell BK847.out 0).trans rfl; have hcz63_1 : w61.cell? ⟨gb847, 1, none⟩ = some (.int .u64 0) := (blk_cell BK847.out 1).trans rfl; have hcz63_2 : w61.cell? ⟨gb847, 2, none⟩ = some (.int .i64 0) := (blk_cell BK847.out 2).trans rfl; have hcz63_3 : w61.cell? ⟨gb847, 3, none⟩ = some (.bool false) := (blk_cell BK847.out 3).trans rfl; have hcz63_4 : w61.cell? ⟨gb847, 4, none⟩ = some (.string (⟨#[]⟩ : ByteArray)) := (blk_cell BK847.out 4).trans rfl; have hfz63_0 := blk_frozen BK847.out 0; have hfz63_1 := blk_frozen BK847.out 1; have hfz63_2 := blk_frozen BK847.out 2; have hfz63_3 := blk_frozen BK847.out 3; have hfz63_4 := blk_frozen BK847.out 4))
                              have n0_ : Aside0 ((((((w61.setCell ⟨gb847, 0, none⟩ (.int .u8 ((rd_T91 l0 x56_3).f0))).setCell ⟨gb847, 1, none⟩ (.int .u64 ((rd_T91 l0 x56_3).f1))).setCell ⟨gb847, 2, none⟩ (.int .i64 ((rd_T91 l0 x56_3).f2))).setCell ⟨gb847, 3, none⟩ (.bool ((rd_T91 l0 x56_3).f3))).setCell ⟨gb847, 4, none⟩ (.string ((rd_T91 l0 x56_3).f4))).heap[gb847]? = some (.cells #[.int .u8 ((rd_T91 l0 x56_3).f0), .int .u64 ((rd_T91 l0 x56_3).f1), .int .i64 ((rd_T91 l0 x56_3).f2), .bool ((rd_T91 l0 x56_3).f3), .string ((rd_T91 l0 x56_3).f4)] 91 (0, 0))) := ⟨by (with_reducible repeat (first | refine blk_drewN ?_ _ | refine blk_drew ?_ | refine blk_alloc ?_ _)); refine blk_put (cs := #[.int .u8 ((rd_T91 l0 x56_3).f0), .int .u64 ((rd_T91 l0 x56_3).f1), .int .i64 ((rd_T91 l0 x56_3).f2), .bool ((rd_T91 l0 x56_3).f3), .string (⟨#[]⟩ : ByteArray)]) ?_ 4 _ rfl; (with_reducible repeat (first | refine blk_drewN ?_ _ | refine blk_drew ?_ | refine blk_alloc ?_ _)); refine blk_put (cs := #[.int .u8 ((rd_T91 l0 x56_3).f0), .int .u64 ((rd_T91 l0 x56_3).f1), .int .i64 ((rd_T91 l0 x56_3).f2), .bool false, .string (⟨#[]⟩ : ByteArray)]) ?_ 3 _ rfl; (with_reducible repeat (first | refine blk_drewN ?_ _ | refine blk_drew ?_ | refine blk_alloc ?_ _)); refine blk_put (cs := #[.int .u8 ((rd_T91 l0 x56_3).f0), .int .u64 ((rd_T91 l0 x56_3).f1), .int .i64 0, .bool false, .string (⟨#[]⟩ : ByteArray)]) ?_ 2 _ rfl; (with_reducible repeat (first | refine blk_drewN ?_ _ | refine blk_drew ?_ | refine blk_alloc ?_ _)); refine blk_put (cs := #[.int .u8 ((rd_T91 l0 x56_3).f0), .int .u64 0, .int .i64 0, .bool false, .string (⟨#[]⟩ : ByteArray)]) ?_ 1 _ rfl; (with_reducible repeat (first | refine blk_drewN ?_ _ | refine blk_drew ?_ | refine blk_alloc ?_ _)); refine blk_put (cs := #[.int .u8 0, .int .u64 0, .int .i64 0, .bool false, .string (⟨#[]⟩ : ByteArray)]) ?_ 0 _ rfl; (with_reducible repeat (first | refine blk_drewN ?_ _ | refine blk_drew ?_ | refine blk_alloc ?_ _)); exact BK847.out⟩
                              have n1_ : Aside0 (IsS110 w (((((w61.setCell ⟨gb847, 0, none⟩ (.int .u8 ((rd_T91 l0 x56_3).f0))).setCell ⟨gb847, 1, none⟩ (.int .u64 ((rd_T91 l0 x56_3).f1))).setCell ⟨gb847, 2, none⟩ (.int .i64 ((rd_T91 l0 x56_3).f2))).setCell ⟨gb847, 3, none⟩ (.bool ((rd_T91 l0 x56_3).f3))).setCell ⟨gb847, 4, none⟩ (.string ((rd_T91 l0 x56_3).f4))) g836 x837000_3 x837001_3) := ⟨by repeat (first | (with_reducible first | exact HI836.out | apply IsS110.alloc | apply IsS110.drewN | apply IsS110.drew | apply IsS110.set_0 | apply IsS110.set_1 | refine IsS110.far ?_ NB836_847.out _) | exact HI836.out)⟩
                              have n2_ : Aside0 (Below w.heap.size w (((((w61.setCell ⟨gb847, 0, none⟩ (.int .u8 ((rd_T91 l0 x56_3).f0))).setCell ⟨gb847, 1, none⟩ (.int .u64 ((rd_T91 l0 x56_3).f1))).setCell ⟨gb847, 2, none⟩ (.int .i64 ((rd_T91 l0 x56_3).f2))).setCell ⟨gb847, 3, none⟩ (.bool ((rd_T91 l0 x56_3).f3))).setCell ⟨gb847, 4, none⟩ (.string ((rd_T91 l0 x56_3).f4)))) := ⟨by repeat (first | (with_reducible first | exact HB.out | apply below_alloc | apply pw_below_drewN | apply below_drew1 | refine below_set ?_ (IsS110.ge HI836.out) | refine below_set ?_ GE847.out) | exact HB.out)⟩
                              (try clear BK847)
                              (try clear HI836)
                              (try clear HB)
                              generalize (((((w61.setCell ⟨gb847, 0, none⟩ (.int .u8 ((rd_T91 l0 x56_3).f0))).setCell ⟨gb847, 1, none⟩ (.int .u64 ((rd_T91 l0 x56_3).f1))).setCell ⟨gb847, 2, none⟩ (.int .i64 ((rd_T91 l0 x56_3).f2))).setCell ⟨gb847, 3, none⟩ (.bool ((rd_T91 l0 x56_3).f3))).setCell ⟨gb847, 4, none⟩ (.string ((rd_T91 l0 x56_3).f4))) = w64 at n0_ n1_ n2_ ⊢
                              have BK847 := n0_
                              have HI836 := n1_
                              have HB := n2_
                              clear n0_ n1_ n2_
                              have n0_ := Aside0.mk (blk_drew BK847.out)
                              have n1_ := Aside0.mk (IsS110.drew HI836.out)
                              have n2_ := Aside0.mk (below_drew1 HB.out)
                              clear BK847
                              clear HI836
                              clear HB
                              have BK847 := n0_
                              have HI836 := n1_
                              have HB := n2_
                              clear n0_ n1_ n2_
                              refine start_ (n := 6) (S := fun w' => w'.cell? ⟨gb847, 0, none⟩ = some (.int .u8 ((rd_T91 l0 x56_3).f0)) ∧ w'.cell? ⟨gb847, 1, none⟩ = some (.int .u64 ((rd_T91 l0 x56_3).f1)) ∧ w'.cell? ⟨gb847, 2, none⟩ = some (.int .i64 ((rd_T91 l0 x56_3).f2)) ∧ w'.cell? ⟨gb847, 3, none⟩ = some (.bool ((rd_T91 l0 x56_3).f3)) ∧ w'.cell? ⟨gb847, 4, none⟩ = some (.string ((rd_T91 l0 x56_3).f4))) (ds := []) #[false, false, false, false, false, false] (by kernel_rfl) rfl rfl ⟨(blk_cell BK847.out 0).trans rfl, (blk_cell BK847.out 1).trans rfl, (blk_cell BK847.out 2).trans rfl, (blk_cell BK847.out 3).trans rfl, (blk_cell BK847.out 4).trans rfl⟩ (fun hHeld => ?_)
                              generalize w64.drew = w65 at BK847 HI836 HB hHeld ⊢
                              refine pure_ (i := 0) (N := some 80) (v := ?_) (a' := ?_) #[true, false, false, false, false, false] rfl rfl (by kernel_rfl) (fun _ _ _ h => h) (Or.inl ⟨by rfl, ?_⟩) ?_ ?_
                              rotate_left
                              · intro w'
                                go_simp
                                with_reducible rfl
                              rotate_left
                              · simp only [Act.put, List.setIfInBounds_toArray, List.set_cons_zero, List.set_cons_succ, i64_w, i32_w]
                                rfl
                              refine pure_ (i := 2) (N := some 82) (v := ?_) (a' := ?_) #[true, false, true, false, false, false] rfl rfl (by kernel_rfl) (fun _ _ _ h => h) (Or.inl ⟨by rfl, ?_⟩) ?_ ?_
                              rotate_left
                              · intro w'
                                go_simp
                                with_reducible rfl
                              rotate_left
                              · simp only [Act.put, List.setIfInBounds_toArray, List.set_cons_zero, List.set_cons_succ, i64_w, i32_w]
                                rfl
                              refine take_ (i := 3) (N := some 83) (v := ?_) (a' := ?_) #[true, false, true, true, false, false] rfl rfl (by kernel_rfl) (fun _ _ _ h => h) (Or.inl ⟨by rfl, ?_⟩) hHeld ?_ ?_
                              rotate_left
                              · rintro w' ⟨s0, s1, s2, s3, s4⟩
                                go_simp
                                with_reducible rfl
                              rotate_left
                              · simp only [Act.put, List.setIfInBounds_toArray, List.set_cons_zero, List.set_cons_succ, i64_w, i32_w]
                                rfl
                              refine one_ (i := 1) (N := some 81) #[true, true, true, true, false, false] rfl rfl (by kernel_rfl) (by decide) (fun K hK => ?_)
                              refine goes_ Try.func73 (by kernel_rfl) rfl #[.pointer (some ⟨g836, 0, none⟩)] (by rfl) rfl rfl (by (try simp only [List.map_toArray, List.map_cons, List.map_nil]); first | done | rfl | (simp only [List.length_drop, List.length_take]; rfl)) ?_
                              with_reducible refine (wire_Reader_Int.calls g836 x837000_3 x837001_3 t851 t852 t853 w _ ?side1 ?side2 A53.out).mono ?_
                              (case side1 => repeat (first | (with_reducible first | exact HI836.out | apply IsS110.alloc | apply IsS110.drewN | apply IsS110.drew | apply IsS110.set_0 | apply IsS110.set_1 | refine IsS110.far ?_ NB836_847.out _) | exact HI836.out))
                              (case side2 => repeat (first | (with_reducible first | exact HB.out | apply below_alloc | apply pw_below_drewN | apply below_drew1 | refine below_set ?_ (IsS110.ge HI836.out) | refine below_set ?_ GE847.out) | exact HB.out))
                              rintro e w66 ⟨rfl, hi, hb, hk⟩
                              refine ⟨_, rfl, ?_⟩
                              have n0_ := Aside0.mk (KeepBut.blk hk (g' := gb847) (o := .cells #[.int .u8 ((rd_T91 l0 x56_3).f0), .int .u64 ((rd_T91 l0 x56_3).f1), .int .i64 ((rd_T91 l0 x56_3).f2), .bool ((rd_T91 l0 x56_3).f3), .string ((rd_T91 l0 x56_3).f4)] 91 (0, 0)) (by (with_reducible repeat (first | refine blk_drewN ?_ _ | refine blk_drew ?_ | refine blk_alloc ?_ _)); exact BK847.out) NB847_836.out (by simp))
                              have n1_ := Aside0.mk (hb)
                              have n2_ := Aside0.mk (hi)
                              clear BK847
                              clear HB
                              clear HI836
                              have BK847 := n0_
                              have HB := n1_
                              have HI836 := n2_
                              clear n0_ n1_ n2_
                              (try clear hb)
                              (try clear hb2)
                              (try clear hk)
                              (try clear hi)
                              refine hK.out _ _ ⟨(blk_cell BK847.out 0).trans rfl, (blk_cell BK847.out 1).trans rfl, (blk_cell BK847.out 2).trans rfl, (blk_cell BK847.out 3).trans rfl, (blk_cell BK847.out 4).trans rfl⟩ (fun hHeld => ?_)
                              clear hK K
                              refine norm_ (a' := ?_) ?_ ?_
                              rotate_left
                              · show Act.put _ (some 81) _ = _
                                simp only [Act.put, List.setIfInBounds_toArray, List.set_cons_zero, List.set_cons_succ, i64_w, i32_w]
                                rfl
                              refine pure_ (i := 4) (N := some 84) (v := ?_) (a' := ?_) #[true, true, true, true, true, false] rfl rfl (by kernel_rfl) (fun _ _ _ h => h) (Or.inl ⟨by rfl, ?_⟩) ?_ ?_
                              rotate_left
                              · intro w'
                                go_simp
                                with_reducible rfl
                              rotate_left
                              · simp only [Act.put, List.setIfInBounds_toArray, List.set_cons_zero, List.set_cons_succ, i64_w, i32_w]
                                rfl
                              refine pure_ (i := 5) (N := some 9) (v := ?_) (a' := ?_) #[true, true, true, true, true, true] rfl rfl (by kernel_rfl) (fun _ _ _ h => h) (Or.inl ⟨by rfl, ?_⟩) ?_ ?_
                              rotate_left
                              · intro w'
                                go_simp
                                with_reducible rfl
                              rotate_left
                              · simp only [Act.put, List.setIfInBounds_toArray, List.set_cons_zero, List.set_cons_succ, i64_w, i32_w]
                                rfl
                              refine done_ (by kernel_rfl) ?_
                              try go_wp2
                              go_ret
                              exact ⟨by first | rfl | (simp [errW_none, errW_some] <;> rfl) | (simp [*, errW_none, errW_some] <;> rfl), by repeat (first | (with_reducible first | exact HB.out | apply below_alloc | apply pw_below_drewN | apply below_drew1 | refine below_set ?_ (IsS110.ge HI836.out) | refine below_set ?_ GE847.out) | exact HB.out)⟩
                          · rw [if_neg c52] at H
                            have c52b0 : ((Int.tmod ((rd_T91 l0 x56_3).f0) 4) == 1) = false := beq_eq_false_iff_ne.mpr c52
                            have c52b1 : ((Int.tmod ((rd_T91 l0 x56_3).f0) 4) != 1) = true := bne_iff_ne.mpr c52
                            by_cases c67 : (Int.tmod ((rd_T91 l0 x56_3).f0) 4) = 2
                            · rw [if_pos c67] at H
                              have c67b0 : ((Int.tmod ((rd_T91 l0 x56_3).f0) 4) == 2) = true := beq_iff_eq.mpr c67
                              have c67b1 : ((Int.tmod ((rd_T91 l0 x56_3).f0) 4) != 2) = false := bne_eq_false_iff_eq.mpr c67
                              clear c67
                              replace H := Option.bind_eq_some_iff.mp H
                              obtain ⟨⟨t854, t855, t856⟩, A680, H⟩ := H
                              replace H : (if ((t854 == ((rd_T91 l0 x56_3).f3)) = true) then (dasdlaw01_WireReturns.l1 k3 l0 (l0.length : Int) (wrap64 (x56_3 + 1)) t855 t856) else (some false)) = some r := H
                              have A68 := Aside0.mk A680
                              clear A680
                              by_cases c69 : ((t854 == ((rd_T91 l0 x56_3).f3)) = true)
                              · rw [if_pos c69] at H
                                have c69b0 : (t854 == ((rd_T91 l0 x56_3).f3)) = true := c69
                                (try (have c69b1 : decide (t854 = ((rd_T91 l0 x56_3).f3)) = true := by simpa using c69))
                                (try (have c69b2 : (t854 == ((rd_T91 l0 x56_3).f3)) = true := by simpa using c69))
                                clear c69
                                have H' := Aside0.mk H
                                clear H
                                have p846 : 0 ≤ (x56_3 : Int) := of_decide_eq_true (by first | (with_reducible assumption) | assumption)
                                have q846 : x56_3 < (l0.length : Int) := of_decide_eq_true (by first | (with_reducible assumption) | assumption)
                                obtain ⟨ad846, e846, hx846_0, hx846_1, hx846_2, hx846_3, hx846_4⟩ := at_T91 HR0.out x56_3 p846 q846
                                cases e846
                                replace hx846_0 := (HB.out.cell (World.block_lt_of_cell? w _ hx846_0)).trans hx846_0
                                replace hx846_1 := (HB.out.cell (World.block_lt_of_cell? w _ hx846_1)).trans hx846_1
                                replace hx846_2 := (HB.out.cell (World.block_lt_of_cell? w _ hx846_2)).trans hx846_2
                                replace hx846_3 := (HB.out.cell (World.block_lt_of_cell? w _ hx846_3)).trans hx846_3
                                replace hx846_4 := (HB.out.cell (World.block_lt_of_cell? w _ hx846_4)).trans hx846_4
                                replace p846 := eq_true p846
                                replace q846 := eq_true q846
                                try go_wp2_with (first | ((with_reducible refine gate_dst (N := 8) rfl ?_); refine box_event ?hg (N := 8) ?hd (cs := #[.int .u8 0, .int .u64 0, .int .i64 0, .bool false, .string (⟨#[]⟩ : ByteArray)]) (t := 91) ?hr ?_; (case hd => rfl); (case hg => rfl); (case hr => first | (go_simp; done) | (go_simp; rfl)); intro gb847 hg w70 hbox hb; have n0_ := Aside0.mk (IsS110.below (by repeat (first | (with_reducible first | exact HI836.out | apply IsS110.alloc | apply IsS110.drewN | apply IsS110.drew | apply IsS110.set_0 | apply IsS110.set_1) | exact HI836.out)) hb); have n1_ := Aside0.mk (below_step (by repeat (first | (with_reducible first | exact HB.out | apply below_alloc | apply pw_below_drewN | apply below_drew1 | refine below_set ?_ (IsS110.ge HI836.out)) | exact HB.out)) hb); have n2_ := Aside0.mk (hbox); have n3_ := Aside0.mk ((by rw [hg]; exact (below_size (by repeat (first | (with_reducible first | exact HB.out | apply below_alloc | apply pw_below_drewN | apply below_drew1 | refine below_set ?_ (IsS110.ge HI836.out)) | exact HB.out))) : w.heap.size ≤ gb847)); have n4_ := Aside0.mk ((by rw [hg]; exact (below_size (by repeat (first | (with_reducible first | exact HB.out | apply below_alloc | apply pw_below_drewN | apply below_drew1 | refine below_set ?_ (IsS110.ge HI836.out)) | exact HB.out))) : w.heap.size ≤ gb847)); have n5_ := Aside0.mk ((by rw [hg]; exact Nat.ne_of_lt (IsS110.lt (show IsS110 w _ g836 x837000_3 x837001_3 from by repeat (first | (with_reducible first | exact HI836.out | apply IsS110.alloc | apply IsS110.drewN | apply IsS110.drew | apply IsS110.set_0 | apply IsS110.set_1) | exact HI836.out))) : g836 ≠ gb847)); have n6_ := Aside0.mk ((by rw [hg]; exact Nat.ne_of_gt (IsS110.lt (show IsS110 w _ g836 x837000_3 x837001_3 from by repeat (first | (with_reducible first | exact HI836.out | apply IsS110.alloc | apply IsS110.drewN | apply IsS110.drew | apply IsS110.set_0 | apply IsS110.set_1) | exact HI836.out))) : gb847 ≠ g836)); clear HI836; clear HB; have HI836 := n0_; have HB := n1_; have BK847 := n2_; have GW847 := n3_; have GE847 := n4_; have NB836_847 := n5_; have NB847_836 := n6_; clear n0_ n1_ n2_ n3_ n4_ n5_ n6_; clear hb hbox hg; have hnb71 := NB847_836.out; have hnc71 := NB836_847.out; have hcz72_0 : w70.cell? ⟨gb847, 0, none⟩ = some (.int .u8 0) := (blk_cell BK847.out 0).trans rfl; have hcz72_1 : w70.cell? ⟨gb847, 1, none⟩ = some (.int .u64 0) := (blk_cell BK847.out 1).trans rfl; have hcz72_2 : w70.cell? ⟨gb847, 2, none⟩ = some (.int .i64 0) := (blk_cell BK847.out 2).trans rfl; have hcz72_3 : w70.cell? ⟨gb847, 3, none⟩ = some (.bool false) := (blk_cell BK847.out 3).trans rfl; have hcz72_4 : w70.cell? ⟨gb847, 4, none⟩ = some (.string (⟨#[]⟩ : ByteArray)) := (blk_cell BK847.out 4).trans rfl; have hfz72_0 := blk_frozen BK847.out 0; have hfz72_1 := blk_frozen BK847.out 1; have hfz72_2 := blk_frozen BK847.out 2; have hfz72_3 := blk_frozen BK847.out 3; have hfz72_4 := blk_frozen BK847.out 4))
                                have n0_ : Aside0 ((((((w70.setCell ⟨gb847, 0, none⟩ (.int .u8 ((rd_T91 l0 x56_3).f0))).setCell ⟨gb847, 1, none⟩ (.int .u64 ((rd_T91 l0 x56_3).f1))).setCell ⟨gb847, 2, none⟩ (.int .i64 ((rd_T91 l0 x56_3).f2))).setCell ⟨gb847, 3, none⟩ (.bool ((rd_T91 l0 x56_3).f3))).setCell ⟨gb847, 4, none⟩ (.string ((rd_T91 l0 x56_3).f4))).heap[gb847]? = some (.cells #[.int .u8 ((rd_T91 l0 x56_3).f0), .int .u64 ((rd_T91 l0 x56_3).f1), .int .i64 ((rd_T91 l0 x56_3).f2), .bool ((rd_T91 l0 x56_3).f3), .string ((rd_T91 l0 x56_3).f4)] 91 (0, 0))) := ⟨by (with_reducible repeat (first | refine blk_drewN ?_ _ | refine blk_drew ?_ | refine blk_alloc ?_ _)); refine blk_put (cs := #[.int .u8 ((rd_T91 l0 x56_3).f0), .int .u64 ((rd_T91 l0 x56_3).f1), .int .i64 ((rd_T91 l0 x56_3).f2), .bool ((rd_T91 l0 x56_3).f3), .string (⟨#[]⟩ : ByteArray)]) ?_ 4 _ rfl; (with_reducible repeat (first | refine blk_drewN ?_ _ | refine blk_drew ?_ | refine blk_alloc ?_ _)); refine blk_put (cs := #[.int .u8 ((rd_T91 l0 x56_3).f0), .int .u64 ((rd_T91 l0 x56_3).f1), .int .i64 ((rd_T91 l0 x56_3).f2), .bool false, .string (⟨#[]⟩ : ByteArray)]) ?_ 3 _ rfl; (with_reducible repeat (first | refine blk_drewN ?_ _ | refine blk_drew ?_ | refine blk_alloc ?_ _)); refine blk_put (cs := #[.int .u8 ((rd_T91 l0 x56_3).f0), .int .u64 ((rd_T91 l0 x56_3).f1), .int .i64 0, .bool false, .string (⟨#[]⟩ : ByteArray)]) ?_ 2 _ rfl; (with_reducible repeat (first | refine blk_drewN ?_ _ | refine blk_drew ?_ | refine blk_alloc ?_ _)); refine blk_put (cs := #[.int .u8 ((rd_T91 l0 x56_3).f0), .int .u64 0, .int .i64 0, .bool false, .string (⟨#[]⟩ : ByteArray)]) ?_ 1 _ rfl; (with_reducible repeat (first | refine blk_drewN ?_ _ | refine blk_drew ?_ | refine blk_alloc ?_ _)); refine blk_put (cs := #[.int .u8 0, .int .u64 0, .int .i64 0, .bool false, .string (⟨#[]⟩ : ByteArray)]) ?_ 0 _ rfl; (with_reducible repeat (first | refine blk_drewN ?_ _ | refine blk_drew ?_ | refine blk_alloc ?_ _)); exact BK847.out⟩
                                have n1_ : Aside0 (IsS110 w (((((w70.setCell ⟨gb847, 0, none⟩ (.int .u8 ((rd_T91 l0 x56_3).f0))).setCell ⟨gb847, 1, none⟩ (.int .u64 ((rd_T91 l0 x56_3).f1))).setCell ⟨gb847, 2, none⟩ (.int .i64 ((rd_T91 l0 x56_3).f2))).setCell ⟨gb847, 3, none⟩ (.bool ((rd_T91 l0 x56_3).f3))).setCell ⟨gb847, 4, none⟩ (.string ((rd_T91 l0 x56_3).f4))) g836 x837000_3 x837001_3) := ⟨by repeat (first | (with_reducible first | exact HI836.out | apply IsS110.alloc | apply IsS110.drewN | apply IsS110.drew | apply IsS110.set_0 | apply IsS110.set_1 | refine IsS110.far ?_ NB836_847.out _) | exact HI836.out)⟩
                                have n2_ : Aside0 (Below w.heap.size w (((((w70.setCell ⟨gb847, 0, none⟩ (.int .u8 ((rd_T91 l0 x56_3).f0))).setCell ⟨gb847, 1, none⟩ (.int .u64 ((rd_T91 l0 x56_3).f1))).setCell ⟨gb847, 2, none⟩ (.int .i64 ((rd_T91 l0 x56_3).f2))).setCell ⟨gb847, 3, none⟩ (.bool ((rd_T91 l0 x56_3).f3))).setCell ⟨gb847, 4, none⟩ (.string ((rd_T91 l0 x56_3).f4)))) := ⟨by repeat (first | (with_reducible first | exact HB.out | apply below_alloc | apply pw_below_drewN | apply below_drew1 | refine below_set ?_ (IsS110.ge HI836.out) | refine below_set ?_ GE847.out) | exact HB.out)⟩
                                (try clear BK847)
                                (try clear HI836)
                                (try clear HB)
                                generalize (((((w70.setCell ⟨gb847, 0, none⟩ (.int .u8 ((rd_T91 l0 x56_3).f0))).setCell ⟨gb847, 1, none⟩ (.int .u64 ((rd_T91 l0 x56_3).f1))).setCell ⟨gb847, 2, none⟩ (.int .i64 ((rd_T91 l0 x56_3).f2))).setCell ⟨gb847, 3, none⟩ (.bool ((rd_T91 l0 x56_3).f3))).setCell ⟨gb847, 4, none⟩ (.string ((rd_T91 l0 x56_3).f4))) = w73 at n0_ n1_ n2_ ⊢
                                have BK847 := n0_
                                have HI836 := n1_
                                have HB := n2_
                                clear n0_ n1_ n2_
                                have n0_ := Aside0.mk (blk_drew BK847.out)
                                have n1_ := Aside0.mk (IsS110.drew HI836.out)
                                have n2_ := Aside0.mk (below_drew1 HB.out)
                                clear BK847
                                clear HI836
                                clear HB
                                have BK847 := n0_
                                have HI836 := n1_
                                have HB := n2_
                                clear n0_ n1_ n2_
                                refine start_ (n := 6) (S := fun w' => w'.cell? ⟨gb847, 0, none⟩ = some (.int .u8 ((rd_T91 l0 x56_3).f0)) ∧ w'.cell? ⟨gb847, 1, none⟩ = some (.int .u64 ((rd_T91 l0 x56_3).f1)) ∧ w'.cell? ⟨gb847, 2, none⟩ = some (.int .i64 ((rd_T91 l0 x56_3).f2)) ∧ w'.cell? ⟨gb847, 3, none⟩ = some (.bool ((rd_T91 l0 x56_3).f3)) ∧ w'.cell? ⟨gb847, 4, none⟩ = some (.string ((rd_T91 l0 x56_3).f4))) (ds := []) #[false, false, false, false, false, false] (by kernel_rfl) rfl rfl ⟨(blk_cell BK847.out 0).trans rfl, (blk_cell BK847.out 1).trans rfl, (blk_cell BK847.out 2).trans rfl, (blk_cell BK847.out 3).trans rfl, (blk_cell BK847.out 4).trans rfl⟩ (fun hHeld => ?_)
                                generalize w73.drew = w74 at BK847 HI836 HB hHeld ⊢
                                refine pure_ (i := 0) (N := some 87) (v := ?_) (a' := ?_) #[true, false, false, false, false, false] rfl rfl (by kernel_rfl) (fun _ _ _ h => h) (Or.inl ⟨by rfl, ?_⟩) ?_ ?_
                                rotate_left
                                · intro w'
                                  go_simp
                                  with_reducible rfl
                                rotate_left
                                · simp only [Act.put, List.setIfInBounds_toArray, List.set_cons_zero, List.set_cons_succ, i64_w, i32_w]
                                  rfl
                                refine pure_ (i := 2) (N := some 89) (v := ?_) (a' := ?_) #[true, false, true, false, false, false] rfl rfl (by kernel_rfl) (fun _ _ _ h => h) (Or.inl ⟨by rfl, ?_⟩) ?_ ?_
                                rotate_left
                                · intro w'
                                  go_simp
                                  with_reducible rfl
                                rotate_left
                                · simp only [Act.put, List.setIfInBounds_toArray, List.set_cons_zero, List.set_cons_succ, i64_w, i32_w]
                                  rfl
                                refine take_ (i := 3) (N := some 90) (v := ?_) (a' := ?_) #[true, false, true, true, false, false] rfl rfl (by kernel_rfl) (fun _ _ _ h => h) (Or.inl ⟨by rfl, ?_⟩) hHeld ?_ ?_
                                rotate_left
                                · rintro w' ⟨s0, s1, s2, s3, s4⟩
                                  go_simp
                                  with_reducible rfl
                                rotate_left
                                · simp only [Act.put, List.setIfInBounds_toArray, List.set_cons_zero, List.set_cons_succ, i64_w, i32_w]
                                  rfl
                                refine one_ (i := 1) (N := some 88) #[true, true, true, true, false, false] rfl rfl (by kernel_rfl) (by decide) (fun K hK => ?_)
                                refine goes_ Try.func75 (by kernel_rfl) rfl #[.pointer (some ⟨g836, 0, none⟩)] (by rfl) rfl rfl (by (try simp only [List.map_toArray, List.map_cons, List.map_nil]); first | done | rfl | (simp only [List.length_drop, List.length_take]; rfl)) ?_
                                with_reducible refine (wire_Reader_Bool.calls g836 x837000_3 x837001_3 t854 t855 t856 w _ ?side1 ?side2 A68.out).mono ?_
                                (case side1 => repeat (first | (with_reducible first | exact HI836.out | apply IsS110.alloc | apply IsS110.drewN | apply IsS110.drew | apply IsS110.set_0 | apply IsS110.set_1 | refine IsS110.far ?_ NB836_847.out _) | exact HI836.out))
                                (case side2 => repeat (first | (with_reducible first | exact HB.out | apply below_alloc | apply pw_below_drewN | apply below_drew1 | refine below_set ?_ (IsS110.ge HI836.out) | refine below_set ?_ GE847.out) | exact HB.out))
                                rintro e w75 ⟨rfl, hi, hb, hk⟩
                                refine ⟨_, rfl, ?_⟩
                                have n0_ := Aside0.mk (KeepBut.blk hk (g' := gb847) (o := .cells #[.int .u8 ((rd_T91 l0 x56_3).f0), .int .u64 ((rd_T91 l0 x56_3).f1), .int .i64 ((rd_T91 l0 x56_3).f2), .bool ((rd_T91 l0 x56_3).f3), .string ((rd_T91 l0 x56_3).f4)] 91 (0, 0)) (by (with_reducible repeat (first | refine blk_drewN ?_ _ | refine blk_drew ?_ | refine blk_alloc ?_ _)); exact BK847.out) NB847_836.out (by simp))
                                have n1_ := Aside0.mk (hb)
                                have n2_ := Aside0.mk (hi)
                                clear BK847
                                clear HB
                                clear HI836
                                have BK847 := n0_
                                have HB := n1_
                                have HI836 := n2_
                                clear n0_ n1_ n2_
                                (try clear hb)
                                (try clear hb2)
                                (try clear hk)
                                (try clear hi)
                                refine hK.out _ _ ⟨(blk_cell BK847.out 0).trans rfl, (blk_cell BK847.out 1).trans rfl, (blk_cell BK847.out 2).trans rfl, (blk_cell BK847.out 3).trans rfl, (blk_cell BK847.out 4).trans rfl⟩ (fun hHeld => ?_)
                                clear hK K
                                refine norm_ (a' := ?_) ?_ ?_
                                rotate_left
                                · show Act.put _ (some 88) _ = _
                                  simp only [Act.put, List.setIfInBounds_toArray, List.set_cons_zero, List.set_cons_succ, i64_w, i32_w]
                                  rfl
                                refine pure_ (i := 4) (N := some 91) (v := ?_) (a' := ?_) #[true, true, true, true, true, false] rfl rfl (by kernel_rfl) (fun _ _ _ h => h) (Or.inl ⟨by rfl, ?_⟩) ?_ ?_
                                rotate_left
                                · intro w'
                                  go_simp
                                  with_reducible rfl
                                rotate_left
                                · simp only [Act.put, List.setIfInBounds_toArray, List.set_cons_zero, List.set_cons_succ, i64_w, i32_w]
                                  rfl
                                refine pure_ (i := 5) (N := some 9) (v := ?_) (a' := ?_) #[true, true, true, true, true, true] rfl rfl (by kernel_rfl) (fun _ _ _ h => h) (Or.inl ⟨by rfl, ?_⟩) ?_ ?_
                                rotate_left
                                · intro w'
                                  go_simp
                                  with_reducible rfl
                                rotate_left
                                · simp only [Act.put, List.setIfInBounds_toArray, List.set_cons_zero, List.set_cons_succ, i64_w, i32_w]
                                  rfl
                                refine done_ (by kernel_rfl) ?_
                                try go_wp2
                                go_roundg k3
                                case measure => have := HJ1.out; have := HK2.out; have := HK3.out; omega
                                case rel => exact ⟨(wrap64 (x56_3 + 1)), (t855), (t856), (by first | rfl | (simp; done) | (simp [*]; done)), H', ⟨by have := HJ1.out; have := HK2.out; have := HK3.out; omega⟩, ⟨by repeat (first | (with_reducible first | exact HI836.out | apply IsS110.alloc | apply IsS110.drewN | apply IsS110.drew | apply IsS110.set_0 | apply IsS110.set_1 | refine IsS110.far ?_ NB836_847.out _) | exact HI836.out)⟩, ⟨by repeat (first | (with_reducible first | exact HB.out | apply below_alloc | apply pw_below_drewN | apply below_drew1 | refine below_set ?_ (IsS110.ge HI836.out) | refine below_set ?_ GE847.out) | exact HB.out)⟩⟩
                              · rw [if_neg c69] at H
                                have c69b0 : (t854 == ((rd_T91 l0 x56_3).f3)) = false := by simpa using c69
                                (try (have c69b1 : decide (t854 = ((rd_T91 l0 x56_3).f3)) = false := by simpa using c69))
                                (try (have c69b2 : (t854 == ((rd_T91 l0 x56_3).f3)) = false := by simpa using c69))
                                (try (have c69b3 : ¬ (t854 = ((rd_T91 l0 x56_3).f3)) := by simpa using c69))
                                clear c69
                                obtain rfl := Option.some.inj H
                                have p846 : 0 ≤ (x56_3 : Int) := of_decide_eq_true (by first | (with_reducible assumption) | assumption)
                                have q846 : x56_3 < (l0.length : Int) := of_decide_eq_true (by first | (with_reducible assumption) | assumption)
                                obtain ⟨ad846, e846, hx846_0, hx846_1, hx846_2, hx846_3, hx846_4⟩ := at_T91 HR0.out x56_3 p846 q846
                                cases e846
                                replace hx846_0 := (HB.out.cell (World.block_lt_of_cell? w _ hx846_0)).trans hx846_0
                                replace hx846_1 := (HB.out.cell (World.block_lt_of_cell? w _ hx846_1)).trans hx846_1
                                replace hx846_2 := (HB.out.cell (World.block_lt_of_cell? w _ hx846_2)).trans hx846_2
                                replace hx846_3 := (HB.out.cell (World.block_lt_of_cell? w _ hx846_3)).trans hx846_3
                                replace hx846_4 := (HB.out.cell (World.block_lt_of_cell? w _ hx846_4)).trans hx846_4
                                replace p846 := eq_true p846
                                replace q846 := eq_true q846
                                try go_wp2_with (first | ((with_reducible refine gate_dst (N := 8) rfl ?_); refine box_event ?hg (N := 8) ?hd (cs := #[.int .u8 0, .int .u64 0, .int .i64 0, .bool false, .string (⟨#[]⟩ : ByteArray)]) (t := 91) ?hr ?_; (case hd => rfl); (case hg => rfl); (case hr => first | (go_simp; done) | (go_simp; rfl)); intro gb847 hg w76 hbox hb; have n0_ := Aside0.mk (IsS110.below (by repeat (first | (with_reducible first | exact HI836.out | apply IsS110.alloc | apply IsS110.drewN | apply IsS110.drew | apply IsS110.set_0 | apply IsS110.set_1) | exact HI836.out)) hb); have n1_ := Aside0.mk (below_step (by repeat (first | (with_reducible first | exact HB.out | apply below_alloc | apply pw_below_drewN | apply below_drew1 | refine below_set ?_ (IsS110.ge HI836.out)) | exact HB.out)) hb); have n2_ := Aside0.mk (hbox); have n3_ := Aside0.mk ((by rw [hg]; exact (below_size (by repeat (first | (with_reducible first | exact HB.out | apply below_alloc | apply pw_below_drewN | apply below_drew1 | refine below_set ?_ (IsS110.ge HI836.out)) | exact HB.out))) : w.heap.size ≤ gb847)); have n4_ := Aside0.mk ((by rw [hg]; exact (below_size (by repeat (first | (with_reducible first | exact HB.out | apply below_alloc | apply pw_below_drewN | apply below_drew1 | refine below_set ?_ (IsS110.ge HI836.out)) | exact HB.out))) : w.heap.size ≤ gb847)); have n5_ := Aside0.mk ((by rw [hg]; exact Nat.ne_of_lt (IsS110.lt (show IsS110 w _ g836 x837000_3 x837001_3 from by repeat (first | (with_reducible first | exact HI836.out | apply IsS110.alloc | apply IsS110.drewN | apply IsS110.drew | apply IsS110.set_0 | apply IsS110.set_1) | exact HI836.out))) : g836 ≠ gb847)); have n6_ := Aside0.mk ((by rw [hg]; exact Nat.ne_of_gt (IsS110.lt (show IsS110 w _ g836 x837000_3 x837001_3 from by repeat (first | (with_reducible first | exact HI836.out | apply IsS110.alloc | apply IsS110.drewN | apply IsS110.drew | apply IsS110.set_0 | apply IsS110.set_1) | exact HI836.out))) : gb847 ≠ g836)); clear HI836; clear HB; have HI836 := n0_; have HB := n1_; have BK847 := n2_; have GW847 := n3_; have GE847 := n4_; have NB836_847 := n5_; have NB847_836 := n6_; clear n0_ n1_ n2_ n3_ n4_ n5_ n6_; clear hb hbox hg; have hnb77 := NB847_836.out; have hnc77 := NB836_847.out; have hcz78_0 : w76.cell? ⟨gb847, 0, none⟩ = some (.int .u8 0) := (blk_cell BK847.out 0).trans rfl; have hcz78_1 : w76.cell? ⟨gb847, 1, none⟩ = some (.int .u64 0) := (blk_cell BK847.out 1).trans rfl; have hcz78_2 : w76.cell? ⟨gb847, 2, none⟩ = some (.int .i64 0) := (blk_cell BK847.out 2).trans rfl; have hcz78_3 : w76.cell? ⟨gb847, 3, none⟩ = some (.bool false) := (blk_cell BK847.out 3).trans rfl; have hcz78_4 : w76.cell? ⟨gb847, 4, none⟩ = some (.string (⟨#[]⟩ : ByteArray)) := (blk_cell BK847.out 4).trans rfl; have hfz78_0 := blk_frozen BK847.out 0; have hfz78_1 := blk_frozen BK847.out 1; have hfz78_2 := blk_frozen BK847.out 2; have hfz78_3 := blk_frozen BK847.out 3; have hfz78_4 := blk_frozen BK847.out 4))
                                have n0_ : Aside0 ((((((w76.setCell ⟨gb847, 0, none⟩ (.int .u8 ((rd_T91 l0 x56_3).f0))).setCell ⟨gb847, 1, none⟩ (.int .u64 ((rd_T91 l0 x56_3).f1))).setCell ⟨gb847, 2, none⟩ (.int .i64 ((rd_T91 l0 x56_3).f2))).setCell ⟨gb847, 3, none⟩ (.bool ((rd_T91 l0 x56_3).f3))).setCell ⟨gb847, 4, none⟩ (.string ((rd_T91 l0 x56_3).f4))).heap[gb847]? = some (.cells #[.int .u8 ((rd_T91 l0 x56_3).f0), .int .u64 ((rd_T91 l0 x56_3).f1), .int .i64 ((rd_T91 l0 x56_3).f2), .bool ((rd_T91 l0 x56_3).f3), .string ((rd_T91 l0 x56_3).f4)] 91 (0, 0))) := ⟨by (with_reducible repeat (first | refine blk_drewN ?_ _ | refine blk_drew ?_ | refine blk_alloc ?_ _)); refine blk_put (cs := #[.int .u8 ((rd_T91 l0 x56_3).f0), .int .u64 ((rd_T91 l0 x56_3).f1), .int .i64 ((rd_T91 l0 x56_3).f2), .bool ((rd_T91 l0 x56_3).f3), .string (⟨#[]⟩ : ByteArray)]) ?_ 4 _ rfl; (with_reducible repeat (first | refine blk_drewN ?_ _ | refine blk_drew ?_ | refine blk_alloc ?_ _)); refine blk_put (cs := #[.int .u8 ((rd_T91 l0 x56_3).f0), .int .u64 ((rd_T91 l0 x56_3).f1), .int .i64 ((rd_T91 l0 x56_3).f2), .bool false, .string (⟨#[]⟩ : ByteArray)]) ?_ 3 _ rfl; (with_reducible repeat (first | refine blk_drewN ?_ _ | refine blk_drew ?_ | refine blk_alloc ?_ _)); refine blk_put (cs := #[.int .u8 ((rd_T91 l0 x56_3).f0), .int .u64 ((rd_T91 l0 x56_3).f1), .int .i64 0, .bool false, .string (⟨#[]⟩ : ByteArray)]) ?_ 2 _ rfl; (with_reducible repeat (first | refine blk_drewN ?_ _ | refine blk_drew ?_ | refine blk_alloc ?_ _)); refine blk_put (cs := #[.int .u8 ((rd_T91 l0 x56_3).f0), .int .u64 0, .int .i64 0, .bool false, .string (⟨#[]⟩ : ByteArray)]) ?_ 1 _ rfl; (with_reducible repeat (first | refine blk_drewN ?_ _ | refine blk_drew ?_ | refine blk_alloc ?_ _)); refine blk_put (cs := #[.int .u8 0, .int .u64 0, .int .i64 0, .bool false, .string (⟨#[]⟩ : ByteArray)]) ?_ 0 _ rfl; (with_reducible repeat (first | refine blk_drewN ?_ _ | refine blk_drew ?_ | refine blk_alloc ?_ _)); exact BK847.out⟩
                                have n1_ : Aside0 (IsS110 w (((((w76.setCell ⟨gb847, 0, none⟩ (.int .u8 ((rd_T91 l0 x56_3).f0))).setCell ⟨gb847, 1, none⟩ (.int .u64 ((rd_T91 l0 x56_3).f1))).setCell ⟨gb847, 2, none⟩ (.int .i64 ((rd_T91 l0 x56_3).f2))).setCell ⟨gb847, 3, none⟩ (.bool ((rd_T91 l0 x56_3).f3))).setCell ⟨gb847, 4, none⟩ (.string ((rd_T91 l0 x56_3).f4))) g836 x837000_3 x837001_3) := ⟨by repeat (first | (with_reducible first | exact HI836.out | apply IsS110.alloc | apply IsS110.drewN | apply IsS110.drew | apply IsS110.set_0 | apply IsS110.set_1 | refine IsS110.far ?_ NB836_847.out _) | exact HI836.out)⟩
                                have n2_ : Aside0 (Below w.heap.size w (((((w76.setCell ⟨gb847, 0, none⟩ (.int .u8 ((rd_T91 l0 x56_3).f0))).setCell ⟨gb847, 1, none⟩ (.int .u64 ((rd_T91 l0 x56_3).f1))).setCell ⟨gb847, 2, none⟩ (.int .i64 ((rd_T91 l0 x56_3).f2))).setCell ⟨gb847, 3, none⟩ (.bool ((rd_T91 l0 x56_3).f3))).setCell ⟨gb847, 4, none⟩ (.string ((rd_T91 l0 x56_3).f4)))) := ⟨by repeat (first | (with_reducible first | exact HB.out | apply below_alloc | apply pw_below_drewN | apply below_drew1 | refine below_set ?_ (IsS110.ge HI836.out) | refine below_set ?_ GE847.out) | exact HB.out)⟩
                                (try clear BK847)
                                (try clear HI836)
                                (try clear HB)
                                generalize (((((w76.setCell ⟨gb847, 0, none⟩ (.int .u8 ((rd_T91 l0 x56_3).f0))).setCell ⟨gb847, 1, none⟩ (.int .u64 ((rd_T91 l0 x56_3).f1))).setCell ⟨gb847, 2, none⟩ (.int .i64 ((rd_T91 l0 x56_3).f2))).setCell ⟨gb847, 3, none⟩ (.bool ((rd_T91 l0 x56_3).f3))).setCell ⟨gb847, 4, none⟩ (.string ((rd_T91 l0 x56_3).f4))) = w79 at n0_ n1_ n2_ ⊢
                                have BK847 := n0_
                                have HI836 := n1_
                                have HB := n2_
                                clear n0_ n1_ n2_
                                have n0_ := Aside0.mk (blk_drew BK847.out)
                                have n1_ := Aside0.mk (IsS110.drew HI836.out)
                                have n2_ := Aside0.mk (below_drew1 HB.out)
                                clear BK847
                                clear HI836
                                clear HB
                                have BK847 := n0_
                                have HI836 := n1_
                                have HB := n2_
                                clear n0_ n1_ n2_
                                refine start_ (n := 6) (S := fun w' => w'.cell? ⟨gb847, 0, none⟩ = some (.int .u8 ((rd_T91 l0 x56_3).f0)) ∧ w'.cell? ⟨gb847, 1, none⟩ = some (.int .u64 ((rd_T91 l0 x56_3).f1)) ∧ w'.cell? ⟨gb847, 2, none⟩ = some (.int .i64 ((rd_T91 l0 x56_3).f2)) ∧ w'.cell? ⟨gb847, 3, none⟩ = some (.bool ((rd_T91 l0 x56_3).f3)) ∧ w'.cell? ⟨gb847, 4, none⟩ = some (.string ((rd_T91 l0 x56_3).f4))) (ds := []) #[false, false, false, false, false, false] (by kernel_rfl) rfl rfl ⟨(blk_cell BK847.out 0).trans rfl, (blk_cell BK847.out 1).trans rfl, (blk_cell BK847.out 2).trans rfl, (blk_cell BK847.out 3).trans rfl, (blk_cell BK847.out 4).trans rfl⟩ (fun hHeld => ?_)
                                generalize w79.drew = w80 at BK847 HI836 HB hHeld ⊢
                                refine pure_ (i := 0) (N := some 87) (v := ?_) (a' := ?_) #[true, false, false, false, false, false] rfl rfl (by kernel_rfl) (fun _ _ _ h => h) (Or.inl ⟨by rfl, ?_⟩) ?_ ?_
                                rotate_left
                                · intro w'
                                  go_simp
                                  with_reducible rfl
                                rotate_left
                                · simp only [Act.put, List.setIfInBounds_toArray, List.set_cons_zero, List.set_cons_succ, i64_w, i32_w]
                                  rfl
                                refine pure_ (i := 2) (N := some 89) (v := ?_) (a' := ?_) #[true, false, true, false, false, false] rfl rfl (by kernel_rfl) (fun _ _ _ h => h) (Or.inl ⟨by rfl, ?_⟩) ?_ ?_
                                rotate_left
                                · intro w'
                                  go_simp
                                  with_reducible rfl
                                rotate_left
                                · simp only [Act.put, List.setIfInBounds_toArray, List.set_cons_zero, List.set_cons_succ, i64_w, i32_w]
                                  rfl
                                refine take_ (i := 3) (N := some 90) (v := ?_) (a' := ?_) #[true, false, true, true, false, false] rfl rfl (by kernel_rfl) (fun _ _ _ h => h) (Or.inl ⟨by rfl, ?_⟩) hHeld ?_ ?_
                                rotate_left
                                · rintro w' ⟨s0, s1, s2, s3, s4⟩
                                  go_simp
                                  with_reducible rfl
                                rotate_left
                                · simp only [Act.put, List.setIfInBounds_toArray, List.set_cons_zero, List.set_cons_succ, i64_w, i32_w]
                                  rfl
                                refine one_ (i := 1) (N := some 88) #[true, true, true, true, false, false] rfl rfl (by kernel_rfl) (by decide) (fun K hK => ?_)
                                refine goes_ Try.func75 (by kernel_rfl) rfl #[.pointer (some ⟨g836, 0, none⟩)] (by rfl) rfl rfl (by (try simp only [List.map_toArray, List.map_cons, List.map_nil]); first | done | rfl | (simp only [List.length_drop, List.length_take]; rfl)) ?_
                                with_reducible refine (wire_Reader_Bool.calls g836 x837000_3 x837001_3 t854 t855 t856 w _ ?side1 ?side2 A68.out).mono ?_
                                (case side1 => repeat (first | (with_reducible first | exact HI836.out | apply IsS110.alloc | apply IsS110.drewN | apply IsS110.drew | apply IsS110.set_0 | apply IsS110.set_1 | refine IsS110.far ?_ NB836_847.out _) | exact HI836.out))
                                (case side2 => repeat (first | (with_reducible first | exact HB.out | apply below_alloc | apply pw_below_drewN | apply below_drew1 | refine below_set ?_ (IsS110.ge HI836.out) | refine below_set ?_ GE847.out) | exact HB.out))
                                rintro e w81 ⟨rfl, hi, hb, hk⟩
                                refine ⟨_, rfl, ?_⟩
                                have n0_ := Aside0.mk (KeepBut.blk hk (g' := gb847) (o := .cells #[.int .u8 ((rd_T91 l0 x56_3).f0), .int .u64 ((rd_T91 l0 x56_3).f1), .int .i64 ((rd_T91 l0 x56_3).f2), .bool ((rd_T91 l0 x56_3).f3), .string ((rd_T91 l0 x56_3).f4)] 91 (0, 0)) (by (with_reducible repeat (first | refine blk_drewN ?_ _ | refine blk_drew ?_ | refine blk_alloc ?_ _)); exact BK847.out) NB847_836.out (by simp))
                                have n1_ := Aside0.mk (hb)
                                have n2_ := Aside0.mk (hi)
                                clear BK847
                                clear HB
                                clear HI836
                                have BK847 := n0_
                                have HB := n1_
                                have HI836 := n2_
                                clear n0_ n1_ n2_
                                (try clear hb)
                                (try clear hb2)
                                (try clear hk)
                                (try clear hi)
                                refine hK.out _ _ ⟨(blk_cell BK847.out 0).trans rfl, (blk_cell BK847.out 1).trans rfl, (blk_cell BK847.out 2).trans rfl, (blk_cell BK847.out 3).trans rfl, (blk_cell BK847.out 4).trans rfl⟩ (fun hHeld => ?_)
                                clear hK K
                                refine norm_ (a' := ?_) ?_ ?_
                                rotate_left
                                · show Act.put _ (some 88) _ = _
                                  simp only [Act.put, List.setIfInBounds_toArray, List.set_cons_zero, List.set_cons_succ, i64_w, i32_w]
                                  rfl
                                refine pure_ (i := 4) (N := some 91) (v := ?_) (a' := ?_) #[true, true, true, true, true, false] rfl rfl (by kernel_rfl) (fun _ _ _ h => h) (Or.inl ⟨by rfl, ?_⟩) ?_ ?_
                                rotate_left
                                · intro w'
                                  go_simp
                                  with_reducible rfl
                                rotate_left
                                · simp only [Act.put, List.setIfInBounds_toArray, List.set_cons_zero, List.set_cons_succ, i64_w, i32_w]
                                  rfl
                                refine pure_ (i := 5) (N := some 9) (v := ?_) (a' := ?_) #[true, true, true, true, true, true] rfl rfl (by kernel_rfl) (fun _ _ _ h => h) (Or.inl ⟨by rfl, ?_⟩) ?_ ?_
                                rotate_left
                                · intro w'
                                  go_simp
                                  with_reducible rfl
                                rotate_left
                                · simp only [Act.put, List.setIfInBounds_toArray, List.set_cons_zero, List.set_cons_succ, i64_w, i32_w]
                                  rfl
                                refine done_ (by kernel_rfl) ?_
                                try go_wp2
                                go_ret
                                exact ⟨by first | rfl | (simp [errW_none, errW_some] <;> rfl) | (simp [*, errW_none, errW_some] <;> rfl), by repeat (first | (with_reducible first | exact HB.out | apply below_alloc | apply pw_below_drewN | apply below_drew1 | refine below_set ?_ (IsS110.ge HI836.out) | refine below_set ?_ GE847.out) | exact HB.out)⟩
                            · rw [if_neg c67] at H
                              have c67b0 : ((Int.tmod ((rd_T91 l0 x56_3).f0) 4) == 2) = false := beq_eq_false_iff_ne.mpr c67
                              have c67b1 : ((Int.tmod ((rd_T91 l0 x56_3).f0) 4) != 2) = true := bne_iff_ne.mpr c67
                              replace H := Option.bind_eq_some_iff.mp H
                              obtain ⟨⟨t857, t858, t859⟩, A820, H⟩ := H
                              replace H : (if (t857.toList = ((rd_T91 l0 x56_3).f4).toList) then (dasdlaw01_WireReturns.l1 k3 l0 (l0.length : Int) (wrap64 (x56_3 + 1)) t858 t859) else (some false)) = some r := H
                              have A82 := Aside0.mk A820
                              clear A820
                              by_cases c83 : (t857.toList = ((rd_T91 l0 x56_3).f4).toList)
                              · rw [if_pos c83] at H
                                have c83b0 : (t857.toList == ((rd_T91 l0 x56_3).f4).toList) = true := beq_iff_eq.mpr c83
                                have c83b1 : (t857.toList != ((rd_T91 l0 x56_3).f4).toList) = false := bne_eq_false_iff_eq.mpr c83
                                clear c83
                                have H' := Aside0.mk H
                                clear H
                                have p846 : 0 ≤ (x56_3 : Int) := of_decide_eq_true (by first | (with_reducible assumption) | assumption)
                                have q846 : x56_3 < (l0.length : Int) := of_decide_eq_true (by first | (with_reducible assumption) | assumption)
                                obtain ⟨ad846, e846, hx846_0, hx846_1, hx846_2, hx846_3, hx846_4⟩ := at_T91 HR0.out x56_3 p846 q846
                                cases e846
                                replace hx846_0 := (HB.out.cell (World.block_lt_of_cell? w _ hx846_0)).trans hx846_0
                                replace hx846_1 := (HB.out.cell (World.block_lt_of_cell? w _ hx846_1)).trans hx846_1
                                replace hx846_2 := (HB.out.cell (World.block_lt_of_cell? w _ hx846_2)).trans hx846_2
                                replace hx846_3 := (HB.out.cell (World.block_lt_of_cell? w _ hx846_3)).trans hx846_3
                                replace hx846_4 := (HB.out.cell (World.block_lt_of_cell? w _ hx846_4)).trans hx846_4
                                replace p846 := eq_true p846
                                replace q846 := eq_true q846
                                try go_wp2_with (first | ((with_reducible refine gate_dst (N := 8) rfl ?_); refine box_event ?hg (N := 8) ?hd (cs := #[.int .u8 0, .int .u64 0, .int .i64 0, .bool false, .string (⟨#[]⟩ : ByteArray)]) (t := 91) ?hr ?_; (case hd => rfl); (case hg => rfl); (case hr => first | (go_simp; done) | (go_simp; rfl)); intro gb847 hg w84 hbox hb; have n0_ := Aside0.mk (IsS110.below (by repeat (first | (with_reducible first | exact HI836.out | apply IsS110.alloc | apply IsS110.drewN | apply IsS110.drew | apply IsS110.set_0 | apply IsS110.set_1) | exact HI836.out)) hb); have n1_ := Aside0.mk (below_step (by repeat (first | (with_reducible first | exact HB.out | apply below_alloc | apply pw_below_drewN | apply below_drew1 | refine below_set ?_ (IsS110.ge HI836.out)) | exact HB.out)) hb); have n2_ := Aside0.mk (hbox); have n3_ := Aside0.mk ((by rw [hg]; exact (below_size (by repeat (first | (with_reducible first | exact HB.out | apply below_alloc | apply pw_below_drewN | apply below_drew1 | refine below_set ?_ (IsS110.ge HI836.out)) | exact HB.out))) : w.heap.size ≤ gb847)); have n4_ := Aside0.mk ((by rw [hg]; exact (below_size (by repeat (first | (with_reducible first | exact HB.out | apply below_alloc | apply pw_below_drewN | apply below_drew1 | refine below_set ?_ (IsS110.ge HI836.out)) | exact HB.out))) : w.heap.size ≤ gb847)); have n5_ := Aside0.mk ((by rw [hg]; exact Nat.ne_of_lt (IsS110.lt (show IsS110 w _ g836 x837000_3 x837001_3 from by repeat (first | (with_reducible first | exact HI836.out | apply IsS110.alloc | apply IsS110.drewN | apply IsS110.drew | apply IsS110.set_0 | apply IsS110.set_1) | exact HI836.out))) : g836 ≠ gb847)); have n6_ := Aside0.mk ((by rw [hg]; exact Nat.ne_of_gt (IsS110.lt (show IsS110 w _ g836 x837000_3 x837001_3 from by repeat (first | (with_reducible first | exact HI836.out | apply IsS110.alloc | apply IsS110.drewN | apply IsS110.drew | apply IsS110.set_0 | apply IsS110.set_1) | exact HI836.out))) : gb847 ≠ g836)); clear HI836; clear HB; have HI836 := n0_; have HB := n1_; have BK847 := n2_; have GW847 := n3_; have GE847 := n4_; have NB836_847 := n5_; have NB847_836 := n6_; clear n0_ n1_ n2_ n3_ n4_ n5_ n6_; clear hb hbox hg; have hnb85 := NB847_836.out; have hnc85 := NB836_847.out; have hcz86_0 : w84.cell? ⟨gb847, 0, none⟩ = some (.int .u8 0) := (blk_cell BK847.out 0).trans rfl; have hcz86_1 : w84.cell? ⟨gb847, 1, none⟩ = some (.int .u64 0) := (blk_cell BK847.out 1).trans rfl; have hcz86_2 : w84.cell? ⟨gb847, 2, none⟩ = some (.int .i64 0) := (blk_cell BK847.out 2).trans rfl; have hcz86_3 : w84.cell? ⟨gb847, 3, none⟩ = some (.bool false) := (blk_cell BK847.out 3).trans rfl; have hcz86_4 : w84.cell? ⟨gb847, 4, none⟩ = some (.string (⟨#[]⟩ : ByteArray)) := (blk_cell BK847.out 4).trans rfl; have hfz86_0 := blk_frozen BK847.out 0; have hfz86_1 := blk_frozen BK847.out 1; have hfz86_2 := blk_frozen BK847.out 2; have hfz86_3 := blk_frozen BK847.out 3; have hfz86_4 := blk_frozen BK847.out 4))
                                have n0_ : Aside0 ((((((w84.setCell ⟨gb847, 0, none⟩ (.int .u8 ((rd_T91 l0 x56_3).f0))).setCell ⟨gb847, 1, none⟩ (.int .u64 ((rd_T91 l0 x56_3).f1))).setCell ⟨gb847, 2, none⟩ (.int .i64 ((rd_T91 l0 x56_3).f2))).setCell ⟨gb847, 3, none⟩ (.bool ((rd_T91 l0 x56_3).f3))).setCell ⟨gb847, 4, none⟩ (.string ((rd_T91 l0 x56_3).f4))).heap[gb847]? = some (.cells #[.int .u8 ((rd_T91 l0 x56_3).f0), .int .u64 ((rd_T91 l0 x56_3).f1), .int .i64 ((rd_T91 l0 x56_3).f2), .bool ((rd_T91 l0 x56_3).f3), .string ((rd_T91 l0 x56_3).f4)] 91 (0, 0))) := ⟨by (with_reducible repeat (first | refine blk_drewN ?_ _ | refine blk_drew ?_ | refine blk_alloc ?_ _)); refine blk_put (cs := #[.int .u8 ((rd_T91 l0 x56_3).f0), .int .u64 ((rd_T91 l0 x56_3).f1), .int .i64 ((rd_T91 l0 x56_3).f2), .bool ((rd_T91 l0 x56_3).f3), .string (⟨#[]⟩ : ByteArray)]) ?_ 4 _ rfl; (with_reducible repeat (first | refine blk_drewN ?_ _ | refine blk_drew ?_ | refine blk_alloc ?_ _)); refine blk_put (cs := #[.int .u8 ((rd_T91 l0 x56_3).f0), .int .u64 ((rd_T91 l0 x56_3).f1), .int .i64 ((rd_T91 l0 x56_3).f2), .bool false, .string (⟨#[]⟩ : ByteArray)]) ?_ 3 _ rfl; (with_reducible repeat (first | refine blk_drewN ?_ _ | refine blk_drew ?_ | refine blk_alloc ?_ _)); refine blk_put (cs := #[.int .u8 ((rd_T91 l0 x56_3).f0), .int .u64 ((rd_T91 l0 x56_3).f1), .int .i64 0, .bool false, .string (⟨#[]⟩ : ByteArray)]) ?_ 2 _ rfl; (with_reducible repeat (first | refine blk_drewN ?_ _ | refine blk_drew ?_ | refine blk_alloc ?_ _)); refine blk_put (cs := #[.int .u8 ((rd_T91 l0 x56_3).f0), .int .u64 0, .int .i64 0, .bool false, .string (⟨#[]⟩ : ByteArray)]) ?_ 1 _ rfl; (with_reducible repeat (first | refine blk_drewN ?_ _ | refine blk_drew ?_ | refine blk_alloc ?_ _)); refine blk_put (cs := #[.int .u8 0, .int .u64 0, .int .i64 0, .bool false, .string (⟨#[]⟩ : ByteArray)]) ?_ 0 _ rfl; (with_reducible repeat (first | refine blk_drewN ?_ _ | refine blk_drew ?_ | refine blk_alloc ?_ _)); exact BK847.out⟩
                                have n1_ : Aside0 (IsS110 w (((((w84.setCell ⟨gb847, 0, none⟩ (.int .u8 ((rd_T91 l0 x56_3).f0))).setCell ⟨gb847, 1, none⟩ (.int .u64 ((rd_T91 l0 x56_3).f1))).setCell ⟨gb847, 2, none⟩ (.int .i64 ((rd_T91 l0 x56_3).f2))).setCell ⟨gb847, 3, none⟩ (.bool ((rd_T91 l0 x56_3).f3))).setCell ⟨gb847, 4, none⟩ (.string ((rd_T91 l0 x56_3).f4))) g836 x837000_3 x837001_3) := ⟨by repeat (first | (with_reducible first | exact HI836.out | apply IsS110.alloc | apply IsS110.drewN | apply IsS110.drew | apply IsS110.set_0 | apply IsS110.set_1 | refine IsS110.far ?_ NB836_847.out _) | exact HI836.out)⟩
                                have n2_ : Aside0 (Below w.heap.size w (((((w84.setCell ⟨gb847, 0, none⟩ (.int .u8 ((rd_T91 l0 x56_3).f0))).setCell ⟨gb847, 1, none⟩ (.int .u64 ((rd_T91 l0 x56_3).f1))).setCell ⟨gb847, 2, none⟩ (.int .i64 ((rd_T91 l0 x56_3).f2))).setCell ⟨gb847, 3, none⟩ (.bool ((rd_T91 l0 x56_3).f3))).setCell ⟨gb847, 4, none⟩ (.string ((rd_T91 l0 x56_3).f4)))) := ⟨by repeat (first | (with_reducible first | exact HB.out | apply below_alloc | apply pw_below_drewN | apply below_drew1 | refine below_set ?_ (IsS110.ge HI836.out) | refine below_set ?_ GE847.out) | exact HB.out)⟩
                                (try clear BK847)
                                (try clear HI836)
                                (try clear HB)
                                generalize (((((w84.setCell ⟨gb847, 0, none⟩ (.int .u8 ((rd_T91 l0 x56_3).f0))).setCell ⟨gb847, 1, none⟩ (.int .u64 ((rd_T91 l0 x56_3).f1))).setCell ⟨gb847, 2, none⟩ (.int .i64 ((rd_T91 l0 x56_3).f2))).setCell ⟨gb847, 3, none⟩ (.bool ((rd_T91 l0 x56_3).f3))).setCell ⟨gb847, 4, none⟩ (.string ((rd_T91 l0 x56_3).f4))) = w87 at n0_ n1_ n2_ ⊢
                                have BK847 := n0_
                                have HI836 := n1_
                                have HB := n2_
                                clear n0_ n1_ n2_
                                have n0_ := Aside0.mk (blk_drew BK847.out)
                                have n1_ := Aside0.mk (IsS110.drew HI836.out)
                                have n2_ := Aside0.mk (below_drew1 HB.out)
                                clear BK847
                                clear HI836
                                clear HB
                                have BK847 := n0_
                                have HI836 := n1_
                                have HB := n2_
                                clear n0_ n1_ n2_
                                refine start_ (n := 9) (S := fun w' => w'.cell? ⟨gb847, 0, none⟩ = some (.int .u8 ((rd_T91 l0 x56_3).f0)) ∧ w'.cell? ⟨gb847, 1, none⟩ = some (.int .u64 ((rd_T91 l0 x56_3).f1)) ∧ w'.cell? ⟨gb847, 2, none⟩ = some (.int .i64 ((rd_T91 l0 x56_3).f2)) ∧ w'.cell? ⟨gb847, 3, none⟩ = some (.bool ((rd_T91 l0 x56_3).f3)) ∧ w'.cell? ⟨gb847, 4, none⟩ = some (.string ((rd_T91 l0 x56_3).f4))) (ds := []) #[false, false, false, false, false, false, false, false, false] (by kernel_rfl) rfl rfl ⟨(blk_cell BK847.out 0).trans rfl, (blk_cell BK847.out 1).trans rfl, (blk_cell BK847.out 2).trans rfl, (blk_cell BK847.out 3).trans rfl, (blk_cell BK847.out 4).trans rfl⟩ (fun hHeld => ?_); refine with_tabW dasdlaw01_WireReturns.tab24 dasdlaw01_WireReturns.bits24 (fun HT_ HW_ => ?_)
                                generalize w87.drew = w88 at BK847 HI836 HB hHeld ⊢
                                refine pure_ (i := 0) (N := some 63) (v := ?_) (a' := ?_) #[true, false, false, false, false, false, false, false, false] rfl rfl (any_of HT_.out (by kernel_rfl)) (fun _ _ _ h => h) (Or.inl ⟨by rfl, ?_⟩) ?_ ?_
                                rotate_left
                                · intro w'
                                  go_simp
                                  with_reducible rfl
                                rotate_left
                                · simp only [Act.put, List.setIfInBounds_toArray, List.set_cons_zero, List.set_cons_succ, i64_w, i32_w]
                                  rfl
                                refine pure_ (i := 1) (N := some 64) (v := ?_) (a' := ?_) #[true, true, false, false, false, false, false, false, false] rfl rfl (any_of HT_.out (by kernel_rfl)) (fun _ _ _ h => h) (Or.inl ⟨by rfl, ?_⟩) ?_ ?_
                                rotate_left
                                · intro w'
                                  go_simp
                                  with_reducible rfl
                                rotate_left
                                · simp only [Act.put, List.setIfInBounds_toArray, List.set_cons_zero, List.set_cons_succ, i64_w, i32_w]
                                  rfl
                                refine pure_ (i := 5) (N := some 68) (v := ?_) (a' := ?_) #[true, true, false, false, false, true, false, false, false] rfl rfl (any_of HT_.out (by kernel_rfl)) (fun _ _ _ h => h) (Or.inl ⟨by rfl, ?_⟩) ?_ ?_
                                rotate_left
                                · intro w'
                                  go_simp
                                  with_reducible rfl
                                rotate_left
                                · simp only [Act.put, List.setIfInBounds_toArray, List.set_cons_zero, List.set_cons_succ, i64_w, i32_w]
                                  rfl
                                refine take_ (i := 2) (N := some 65) (v := ?_) (a' := ?_) #[true, true, true, false, false, true, false, false, false] rfl rfl (take_ofW HT_.out HW_.out (by kernel_rfl)) (fun _ _ _ h => h) (Or.inl ⟨by rfl, ?_⟩) hHeld ?_ ?_
                                rotate_left
                                · rintro w' ⟨s0, s1, s2, s3, s4⟩
                                  go_simp
                                  with_reducible rfl
                                rotate_left
                                · simp only [Act.put, List.setIfInBounds_toArray, List.set_cons_zero, List.set_cons_succ, i64_w, i32_w]
                                  rfl
                                refine pure_ (i := 3) (N := some 66) (v := ?_) (a' := ?_) #[true, true, true, true, false, true, false, false, false] rfl rfl (any_of HT_.out (by kernel_rfl)) (fun _ _ _ h => h) (Or.inl ⟨by rfl, ?_⟩) ?_ ?_
                                rotate_left
                                · intro w'
                                  go_simp
                                  with_reducible rfl
                                rotate_left
                                · simp only [Act.put, List.setIfInBounds_toArray, List.set_cons_zero, List.set_cons_succ, i64_w, i32_w]
                                  rfl
                                refine take_ (i := 6) (N := some 69) (v := ?_) (a' := ?_) #[true, true, true, true, false, true, true, false, false] rfl rfl (take_ofW HT_.out HW_.out (by kernel_rfl)) (fun _ _ _ h => h) (Or.inl ⟨by rfl, ?_⟩) hHeld ?_ ?_
                                rotate_left
                                · rintro w' ⟨s0, s1, s2, s3, s4⟩
                                  go_simp
                                  with_reducible rfl
                                rotate_left
                                · simp only [Act.put, List.setIfInBounds_toArray, List.set_cons_zero, List.set_cons_succ, i64_w, i32_w]
                                  rfl
                                refine one_ (i := 4) (N := some 67) #[true, true, true, true, true, true, true, false, false] rfl rfl (one_of HT_.out (by kernel_rfl)) (by decide) (fun K hK => ?_)
                                refine goes_ Try.func64 (by kernel_rfl) rfl #[.pointer (some ⟨g836, 0, none⟩), .int .i64 (((rd_T91 l0 x56_3).f4).size : Int)] (by rfl) rfl rfl (by (try simp only [List.map_toArray, List.map_cons, List.map_nil]); first | done | rfl | (simp only [List.length_drop, List.length_take]; rfl)) ?_
                                with_reducible refine (wire_Reader_Text.calls g836 x837000_3 x837001_3 (((rd_T91 l0 x56_3).f4).size : Int) t857 t858 t859 w _ ?side1 ?side2 A82.out).mono ?_
                                (case side1 => repeat (first | (with_reducible first | exact HI836.out | apply IsS110.alloc | apply IsS110.drewN | apply IsS110.drew | apply IsS110.set_0 | apply IsS110.set_1 | refine IsS110.far ?_ NB836_847.out _) | exact HI836.out))
                                (case side2 => repeat (first | (with_reducible first | exact HB.out | apply below_alloc | apply pw_below_drewN | apply below_drew1 | refine below_set ?_ (IsS110.ge HI836.out) | refine below_set ?_ GE847.out) | exact HB.out))
                                rintro e w89 ⟨rfl, hi, hb, hk⟩
                                refine ⟨_, rfl, ?_⟩
                                have n0_ := Aside0.mk (KeepBut.blk hk (g' := gb847) (o := .cells #[.int .u8 ((rd_T91 l0 x56_3).f0), .int .u64 ((rd_T91 l0 x56_3).f1), .int .i64 ((rd_T91 l0 x56_3).f2), .bool ((rd_T91 l0 x56_3).f3), .string ((rd_T91 l0 x56_3).f4)] 91 (0, 0)) (by (with_reducible repeat (first | refine blk_drewN ?_ _ | refine blk_drew ?_ | refine blk_alloc ?_ _)); exact BK847.out) NB847_836.out (by simp))
                                have n1_ := Aside0.mk (hb)
                                have n2_ := Aside0.mk (hi)
                                clear BK847
                                clear HB
                                clear HI836
                                have BK847 := n0_
                                have HB := n1_
                                have HI836 := n2_
                                clear n0_ n1_ n2_
                                (try clear hb)
                                (try clear hb2)
                                (try clear hk)
                                (try clear hi)
                                refine hK.out _ _ ⟨(blk_cell BK847.out 0).trans rfl, (blk_cell BK847.out 1).trans rfl, (blk_cell BK847.out 2).trans rfl, (blk_cell BK847.out 3).trans rfl, (blk_cell BK847.out 4).trans rfl⟩ (fun hHeld => ?_)
                                clear hK K
                                refine norm_ (a' := ?_) ?_ ?_
                                rotate_left
                                · show Act.put _ (some 67) _ = _
                                  simp only [Act.put, List.setIfInBounds_toArray, List.set_cons_zero, List.set_cons_succ, i64_w, i32_w]
                                  rfl
                                refine pure_ (i := 7) (N := some 70) (v := ?_) (a' := ?_) #[true, true, true, true, true, true, true, true, false] rfl rfl (any_of HT_.out (by kernel_rfl)) (fun _ _ _ h => h) (Or.inl ⟨by rfl, ?_⟩) ?_ ?_
                                rotate_left
                                · intro w'
                                  go_simp
                                  with_reducible rfl
                                rotate_left
                                · simp only [Act.put, List.setIfInBounds_toArray, List.set_cons_zero, List.set_cons_succ, i64_w, i32_w]
                                  rfl
                                refine pure_ (i := 8) (N := some 9) (v := ?_) (a' := ?_) #[true, true, true, true, true, true, true, true, true] rfl rfl (any_of HT_.out (by kernel_rfl)) (fun _ _ _ h => h) (Or.inl ⟨by rfl, ?_⟩) ?_ ?_
                                rotate_left
                                · intro w'
                                  go_simp
                                  with_reducible rfl
                                rotate_left
                                · simp only [Act.put, List.setIfInBounds_toArray, List.set_cons_zero, List.set_cons_succ, i64_w, i32_w]
                                  rfl
                                refine done_ (done_of HT_.out (by kernel_rfl)) ?_
                                try go_wp2
                                go_roundg k3
                                case measure => have := HJ1.out; have := HK2.out; have := HK3.out; omega
                                case rel => exact ⟨(wrap64 (x56_3 + 1)), (t858), (t859), (by first | rfl | (simp; done) | (simp [*]; done)), H', ⟨by have := HJ1.out; have := HK2.out; have := HK3.out; omega⟩, ⟨by repeat (first | (with_reducible first | exact HI836.out | apply IsS110.alloc | apply IsS110.drewN | apply IsS110.drew | apply IsS110.set_0 | apply IsS110.set_1 | refine IsS110.far ?_ NB836_847.out _) | exact HI836.out)⟩, ⟨by repeat (first | (with_reducible first | exact HB.out | apply below_alloc | apply pw_below_drewN | apply below_drew1 | refine below_set ?_ (IsS110.ge HI836.out) | refine below_set ?_ GE847.out) | exact HB.out)⟩⟩
                              · rw [if_neg c83] at H
                                have c83b0 : (t857.toList == ((rd_T91 l0 x56_3).f4).toList) = false := beq_eq_false_iff_ne.mpr c83
                                have c83b1 : (t857.toList != ((rd_T91 l0 x56_3).f4).toList) = true := bne_iff_ne.mpr c83
                                obtain rfl := Option.some.inj H
                                have p846 : 0 ≤ (x56_3 : Int) := of_decide_eq_true (by first | (with_reducible assumption) | assumption)
                                have q846 : x56_3 < (l0.length : Int) := of_decide_eq_true (by first | (with_reducible assumption) | assumption)
                                obtain ⟨ad846, e846, hx846_0, hx846_1, hx846_2, hx846_3, hx846_4⟩ := at_T91 HR0.out x56_3 p846 q846
                                cases e846
                                replace hx846_0 := (HB.out.cell (World.block_lt_of_cell? w _ hx846_0)).trans hx846_0
                                replace hx846_1 := (HB.out.cell (World.block_lt_of_cell? w _ hx846_1)).trans hx846_1
                                replace hx846_2 := (HB.out.cell (World.block_lt_of_cell? w _ hx846_2)).trans hx846_2
                                replace hx846_3 := (HB.out.cell (World.block_lt_of_cell? w _ hx846_3)).trans hx846_3
                                replace hx846_4 := (HB.out.cell (World.block_lt_of_cell? w _ hx846_4)).trans hx846_4
                                replace p846 := eq_true p846
                                replace q846 := eq_true q846
                                try go_wp2_with (first | ((with_reducible refine gate_dst (N := 8) rfl ?_); refine box_event ?hg (N := 8) ?hd (cs := #[.int .u8 0, .int .u64 0, .int .i64 0, .bool false, .string (⟨#[]⟩ : ByteArray)]) (t := 91) ?hr ?_; (case hd => rfl); (case hg => rfl); (case hr => first | (go_simp; done) | (go_simp; rfl)); intro gb847 hg w90 hbox hb; have n0_ := Aside0.mk (IsS110.below (by repeat (first | (with_reducible first | exact HI836.out | apply IsS110.alloc | apply IsS110.drewN | apply IsS110.drew | apply IsS110.set_0 | apply IsS110.set_1) | exact HI836.out)) hb); have n1_ := Aside0.mk (below_step (by repeat (first | (with_reducible first | exact HB.out | apply below_alloc | apply pw_below_drewN | apply below_drew1 | refine below_set ?_ (IsS110.ge HI836.out)) | exact HB.out)) hb); have n2_ := Aside0.mk (hbox); have n3_ := Aside0.mk ((by rw [hg]; exact (below_size (by repeat (first | (with_reducible first | exact HB.out | apply below_alloc | apply pw_below_drewN | apply below_drew1 | refine below_set ?_ (IsS110.ge HI836.out)) | exact HB.out))) : w.heap.size ≤ gb847)); have n4_ := Aside0.mk ((by rw [hg]; exact (below_size (by repeat (first | (with_reducible first | exact HB.out | apply below_alloc | apply pw_below_drewN | apply below_drew1 | refine below_set ?_ (IsS110.ge HI836.out)) | exact HB.out))) : w.heap.size ≤ gb847)); have n5_ := Aside0.mk ((by rw [hg]; exact Nat.ne_of_lt (IsS110.lt (show IsS110 w _ g836 x837000_3 x837001_3 from by repeat (first | (with_reducible first | exact HI836.out | apply IsS110.alloc | apply IsS110.drewN | apply IsS110.drew | apply IsS110.set_0 | apply IsS110.set_1) | exact HI836.out))) : g836 ≠ gb847)); have n6_ := Aside0.mk ((by rw [hg]; exact Nat.ne_of_gt (IsS110.lt (show IsS110 w _ g836 x837000_3 x837001_3 from by repeat (first | (with_reducible first | exact HI836.out | apply IsS110.alloc | apply IsS110.drewN | apply IsS110.drew | apply IsS110.set_0 | apply IsS110.set_1) | exact HI836.out))) : gb847 ≠ g836)); clear HI836; clear HB; have HI836 := n0_; have HB := n1_; have BK847 := n2_; have GW847 := n3_; have GE847 := n4_; have NB836_847 := n5_; have NB847_836 := n6_; clear n0_ n1_ n2_ n3_ n4_ n5_ n6_; clear hb hbox hg; have hnb91 := NB847_836.out; have hnc91 := NB836_847.out; have hcz92_0 : w90.cell? ⟨gb847, 0, none⟩ = some (.int .u8 0) := (blk_cell BK847.out 0).trans rfl; have hcz92_1 : w90.cell? ⟨gb847, 1, none⟩ = some (.int .u64 0) := (blk_cell BK847.out 1).trans rfl; have hcz92_2 : w90.cell? ⟨gb847, 2, none⟩ = some (.int .i64 0) := (blk_cell BK847.out 2).trans rfl; have hcz92_3 : w90.cell? ⟨gb847, 3, none⟩ = some (.bool false) := (blk_cell BK847.out 3).trans rfl; have hcz92_4 : w90.cell? ⟨gb847, 4, none⟩ = some (.string (⟨#[]⟩ : ByteArray)) := (blk_cell BK847.out 4).trans rfl; have hfz92_0 := blk_frozen BK847.out 0; have hfz92_1 := blk_frozen BK847.out 1; have hfz92_2 := blk_frozen BK847.out 2; have hfz92_3 := blk_frozen BK847.out 3; have hfz92_4 := blk_frozen BK847.out 4))
                                have n0_ : Aside0 ((((((w90.setCell ⟨gb847, 0, none⟩ (.int .u8 ((rd_T91 l0 x56_3).f0))).setCell ⟨gb847, 1, none⟩ (.int .u64 ((rd_T91 l0 x56_3).f1))).setCell ⟨gb847, 2, none⟩ (.int .i64 ((rd_T91 l0 x56_3).f2))).setCell ⟨gb847, 3, none⟩ (.bool ((rd_T91 l0 x56_3).f3))).setCell ⟨gb847, 4, none⟩ (.string ((rd_T91 l0 x56_3).f4))).heap[gb847]? = some (.cells #[.int .u8 ((rd_T91 l0 x56_3).f0), .int .u64 ((rd_T91 l0 x56_3).f1), .int .i64 ((rd_T91 l0 x56_3).f2), .bool ((rd_T91 l0 x56_3).f3), .string ((rd_T91 l0 x56_3).f4)] 91 (0, 0))) := ⟨by (with_reducible repeat (first | refine blk_drewN ?_ _ | refine blk_drew ?_ | refine blk_alloc ?_ _)); refine blk_put (cs := #[.int .u8 ((rd_T91 l0 x56_3).f0), .int .u64 ((rd_T91 l0 x56_3).f1), .int .i64 ((rd_T91 l0 x56_3).f2), .bool ((rd_T91 l0 x56_3).f3), .string (⟨#[]⟩ : ByteArray)]) ?_ 4 _ rfl; (with_reducible repeat (first | refine blk_drewN ?_ _ | refine blk_drew ?_ | refine blk_alloc ?_ _)); refine blk_put (cs := #[.int .u8 ((rd_T91 l0 x56_3).f0), .int .u64 ((rd_T91 l0 x56_3).f1), .int .i64 ((rd_T91 l0 x56_3).f2), .bool false, .string (⟨#[]⟩ : ByteArray)]) ?_ 3 _ rfl; (with_reducible repeat (first | refine blk_drewN ?_ _ | refine blk_drew ?_ | refine blk_alloc ?_ _)); refine blk_put (cs := #[.int .u8 ((rd_T91 l0 x56_3).f0), .int .u64 ((rd_T91 l0 x56_3).f1), .int .i64 0, .bool false, .string (⟨#[]⟩ : ByteArray)]) ?_ 2 _ rfl; (with_reducible repeat (first | refine blk_drewN ?_ _ | refine blk_drew ?_ | refine blk_alloc ?_ _)); refine blk_put (cs := #[.int .u8 ((rd_T91 l0 x56_3).f0), .int .u64 0, .int .i64 0, .bool false, .string (⟨#[]⟩ : ByteArray)]) ?_ 1 _ rfl; (with_reducible repeat (first | refine blk_drewN ?_ _ | refine blk_drew ?_ | refine blk_alloc ?_ _)); refine blk_put (cs := #[.int .u8 0, .int .u64 0, .int .i64 0, .bool false, .string (⟨#[]⟩ : ByteArray)]) ?_ 0 _ rfl; (with_reducible repeat (first | refine blk_drewN ?_ _ | refine blk_drew ?_ | refine blk_alloc ?_ _)); exact BK847.out⟩
                                have n1_ : Aside0 (IsS110 w (((((w90.setCell ⟨gb847, 0, none⟩ (.int .u8 ((rd_T91 l0 x56_3).f0))).setCell ⟨gb847, 1, none⟩ (.int .u64 ((rd_T91 l0 x56_3).f1))).setCell ⟨gb847, 2, none⟩ (.int .i64 ((rd_T91 l0 x56_3).f2))).setCell ⟨gb847, 3, none⟩ (.bool ((rd_T91 l0 x56_3).f3))).setCell ⟨gb847, 4, none⟩ (.string ((rd_T91 l0 x56_3).f4))) g836 x837000_3 x837001_3) := ⟨by repeat (first | (with_reducible first | exact HI836.out | apply IsS110.alloc | apply IsS110.drewN | apply IsS110.drew | apply IsS110.set_0 | apply IsS110.set_1 | refine IsS110.far ?_ NB836_847.out _) | exact HI836.out)⟩
                                have n2_ : Aside0 (Below w.heap.size w (((((w90.setCell ⟨gb847, 0, none⟩ (.int .u8 ((rd_T91 l0 x56_3).f0))).setCell ⟨gb847, 1, none⟩ (.int .u64 ((rd_T91 l0 x56_3).f1))).setCell ⟨gb847, 2, none⟩ (.int .i64 ((rd_T91 l0 x56_3).f2))).setCell ⟨gb847, 3, none⟩ (.bool ((rd_T91 l0 x56_3).f3))).setCell ⟨gb847, 4, none⟩ (.string ((rd_T91 l0 x56_3).f4)))) := ⟨by repeat (first | (with_reducible first | exact HB.out | apply below_alloc | apply pw_below_drewN | apply below_drew1 | refine below_set ?_ (IsS110.ge HI836.out) | refine below_set ?_ GE847.out) | exact HB.out)⟩
                                (try clear BK847)
                                (try clear HI836)
                                (try clear HB)
                                generalize (((((w90.setCell ⟨gb847, 0, none⟩ (.int .u8 ((rd_T91 l0 x56_3).f0))).setCell ⟨gb847, 1, none⟩ (.int .u64 ((rd_T91 l0 x56_3).f1))).setCell ⟨gb847, 2, none⟩ (.int .i64 ((rd_T91 l0 x56_3).f2))).setCell ⟨gb847, 3, none⟩ (.bool ((rd_T91 l0 x56_3).f3))).setCell ⟨gb847, 4, none⟩ (.string ((rd_T91 l0 x56_3).f4))) = w93 at n0_ n1_ n2_ ⊢
                                have BK847 := n0_
                                have HI836 := n1_
                                have HB := n2_
                                clear n0_ n1_ n2_
                                have n0_ := Aside0.mk (blk_drew BK847.out)
                                have n1_ := Aside0.mk (IsS110.drew HI836.out)
                                have n2_ := Aside0.mk (below_drew1 HB.out)
                                clear BK847
                                clear HI836
                                clear HB
                                have BK847 := n0_
                                have HI836 := n1_
                                have HB := n2_
                                clear n0_ n1_ n2_
                                refine start_ (n := 9) (S := fun w' => w'.cell? ⟨gb847, 0, none⟩ = some (.int .u8 ((rd_T91 l0 x56_3).f0)) ∧ w'.cell? ⟨gb847, 1, none⟩ = some (.int .u64 ((rd_T91 l0 x56_3).f1)) ∧ w'.cell? ⟨gb847, 2, none⟩ = some (.int .i64 ((rd_T91 l0 x56_3).f2)) ∧ w'.cell? ⟨gb847, 3, none⟩ = some (.bool ((rd_T91 l0 x56_3).f3)) ∧ w'.cell? ⟨gb847, 4, none⟩ = some (.string ((rd_T91 l0 x56_3).f4))) (ds := []) #[false, false, false, false, false, false, false, false, false] (by kernel_rfl) rfl rfl ⟨(blk_cell BK847.out 0).trans rfl, (blk_cell BK847.out 1).trans rfl, (blk_cell BK847.out 2).trans rfl, (blk_cell BK847.out 3).trans rfl, (blk_cell BK847.out 4).trans rfl⟩ (fun hHeld => ?_); refine with_tabW dasdlaw01_WireReturns.tab24 dasdlaw01_WireReturns.bits24 (fun HT_ HW_ => ?_)
                                generalize w93.drew = w94 at BK847 HI836 HB hHeld ⊢
                                refine pure_ (i := 0) (N := some 63) (v := ?_) (a' := ?_) #[true, false, false, false, false, false, false, false, false] rfl rfl (any_of HT_.out (by kernel_rfl)) (fun _ _ _ h => h) (Or.inl ⟨by rfl, ?_⟩) ?_ ?_
                                rotate_left
                                · intro w'
                                  go_simp
                                  with_reducible rfl
                                rotate_left
                                · simp only [Act.put, List.setIfInBounds_toArray, List.set_cons_zero, List.set_cons_succ, i64_w, i32_w]
                                  rfl
                                refine pure_ (i := 1) (N := some 64) (v := ?_) (a' := ?_) #[true, true, false, false, false, false, false, false, false] rfl rfl (any_of HT_.out (by kernel_rfl)) (fun _ _ _ h => h) (Or.inl ⟨by rfl, ?_⟩) ?_ ?_
                                rotate_left
                                · intro w'
                                  go_simp
                                  with_reducible rfl
                                rotate_left
                                · simp only [Act.put, List.setIfInBounds_toArray, List.set_cons_zero, List.set_cons_succ, i64_w, i32_w]
                                  rfl
                                refine pure_ (i := 5) (N := some 68) (v := ?_) (a' := ?_) #[true, true, false, false, false, true, false, false, false] rfl rfl (any_of HT_.out (by kernel_rfl)) (fun _ _ _ h => h) (Or.inl ⟨by rfl, ?_⟩) ?_ ?_
                                rotate_left
                                · intro w'
                                  go_simp
                                  with_reducible rfl
                                rotate_left
                                · simp only [Act.put, List.setIfInBounds_toArray, List.set_cons_zero, List.set_cons_succ, i64_w, i32_w]
                                  rfl
                                refine take_ (i := 2) (N := some 65) (v := ?_) (a' := ?_) #[true, true, true, false, false, true, false, false, false] rfl rfl (take_ofW HT_.out HW_.out (by kernel_rfl)) (fun _ _ _ h => h) (Or.inl ⟨by rfl, ?_⟩) hHeld ?_ ?_
                                rotate_left
                                · rintro w' ⟨s0, s1, s2, s3, s4⟩
                                  go_simp
                                  with_reducible rfl
                                rotate_left
                                · simp only [Act.put, List.setIfInBounds_toArray, List.set_cons_zero, List.set_cons_succ, i64_w, i32_w]
                                  rfl
                                refine pure_ (i := 3) (N := some 66) (v := ?_) (a' := ?_) #[true, true, true, true, false, true, false, false, false] rfl rfl (any_of HT_.out (by kernel_rfl)) (fun _ _ _ h => h) (Or.inl ⟨by rfl, ?_⟩) ?_ ?_
                                rotate_left
                                · intro w'
                                  go_simp
                                  with_reducible rfl
                                rotate_left
                                · simp only [Act.put, List.setIfInBounds_toArray, List.set_cons_zero, List.set_cons_succ, i64_w, i32_w]
                                  rfl
                                refine take_ (i := 6) (N := some 69) (v := ?_) (a' := ?_) #[true, true, true, true, false, true, true, false, false] rfl rfl (take_ofW HT_.out HW_.out (by kernel_rfl)) (fun _ _ _ h => h) (Or.inl ⟨by rfl, ?_⟩) hHeld ?_ ?_
                                rotate_left
                                · rintro w' ⟨s0, s1, s2, s3, s4⟩
                                  go_simp
                                  with_reducible rfl
                                rotate_left
                                · simp only [Act.put, List.setIfInBounds_toArray, List.set_cons_zero, List.set_cons_succ, i64_w, i32_w]
                                  rfl
                                refine one_ (i := 4) (N := some 67) #[true, true, true, true, true, true, true, false, false] rfl rfl (one_of HT_.out (by kernel_rfl)) (by decide) (fun K hK => ?_)
                                refine goes_ Try.func64 (by kernel_rfl) rfl #[.pointer (some ⟨g836, 0, none⟩), .int .i64 (((rd_T91 l0 x56_3).f4).size : Int)] (by rfl) rfl rfl (by (try simp only [List.map_toArray, List.map_cons, List.map_nil]); first | done | rfl | (simp only [List.length_drop, List.length_take]; rfl)) ?_
                                with_reducible refine (wire_Reader_Text.calls g836 x837000_3 x837001_3 (((rd_T91 l0 x56_3).f4).size : Int) t857 t858 t859 w _ ?side1 ?side2 A82.out).mono ?_
                                (case side1 => repeat (first | (with_reducible first | exact HI836.out | apply IsS110.alloc | apply IsS110.drewN | apply IsS110.drew | apply IsS110.set_0 | apply IsS110.set_1 | refine IsS110.far ?_ NB836_847.out _) | exact HI836.out))
                                (case side2 => repeat (first | (with_reducible first | exact HB.out | apply below_alloc | apply pw_below_drewN | apply below_drew1 | refine below_set ?_ (IsS110.ge HI836.out) | refine below_set ?_ GE847.out) | exact HB.out))
                                rintro e w95 ⟨rfl, hi, hb, hk⟩
                                refine ⟨_, rfl, ?_⟩
                                have n0_ := Aside0.mk (KeepBut.blk hk (g' := gb847) (o := .cells #[.int .u8 ((rd_T91 l0 x56_3).f0), .int .u64 ((rd_T91 l0 x56_3).f1), .int .i64 ((rd_T91 l0 x56_3).f2), .bool ((rd_T91 l0 x56_3).f3), .string ((rd_T91 l0 x56_3).f4)] 91 (0, 0)) (by (with_reducible repeat (first | refine blk_drewN ?_ _ | refine blk_drew ?_ | refine blk_alloc ?_ _)); exact BK847.out) NB847_836.out (by simp))
                                have n1_ := Aside0.mk (hb)
                                have n2_ := Aside0.mk (hi)
                                clear BK847
                                clear HB
                                clear HI836
                                have BK847 := n0_
                                have HB := n1_
                                have HI836 := n2_
                                clear n0_ n1_ n2_
                                (try clear hb)
                                (try clear hb2)
                                (try clear hk)
                                (try clear hi)
                                refine hK.out _ _ ⟨(blk_cell BK847.out 0).trans rfl, (blk_cell BK847.out 1).trans rfl, (blk_cell BK847.out 2).trans rfl, (blk_cell BK847.out 3).trans rfl, (blk_cell BK847.out 4).trans rfl⟩ (fun hHeld => ?_)
                                clear hK K
                                refine norm_ (a' := ?_) ?_ ?_
                                rotate_left
                                · show Act.put _ (some 67) _ = _
                                  simp only [Act.put, List.setIfInBounds_toArray, List.set_cons_zero, List.set_cons_succ, i64_w, i32_w]
                                  rfl
                                refine pure_ (i := 7) (N := some 70) (v := ?_) (a' := ?_) #[true, true, true, true, true, true, true, true, false] rfl rfl (any_of HT_.out (by kernel_rfl)) (fun _ _ _ h => h) (Or.inl ⟨by rfl, ?_⟩) ?_ ?_
                                rotate_left
                                · intro w'
                                  go_simp
                                  with_reducible rfl
                                rotate_left
                                · simp only [Act.put, List.setIfInBounds_toArray, List.set_cons_zero, List.set_cons_succ, i64_w, i32_w]
                                  rfl
                                refine pure_ (i := 8) (N := some 9) (v := ?_) (a' := ?_) #[true, true, true, true, true, true, true, true, true] rfl rfl (any_of HT_.out (by kernel_rfl)) (fun _ _ _ h => h) (Or.inl ⟨by rfl, ?_⟩) ?_ ?_
                                rotate_left
                                · intro w'
                                  go_simp
                                  with_reducible rfl
                                rotate_left
                                · simp only [Act.put, List.setIfInBounds_toArray, List.set_cons_zero, List.set_cons_succ, i64_w, i32_w]
                                  rfl
                                refine done_ (done_of HT_.out (by kernel_rfl)) ?_
                                try go_wp2
                                go_ret
                                exact ⟨by first | rfl | (simp [errW_none, errW_some] <;> rfl) | (simp [*, errW_none, errW_some] <;> rfl), by repeat (first | (with_reducible first | exact HB.out | apply below_alloc | apply pw_below_drewN | apply below_drew1 | refine below_set ?_ (IsS110.ge HI836.out) | refine below_set ?_ GE847.out) | exact HB.out)⟩
                      · rw [if_neg c36] at H
                        exact absurd H (by simp)
                    · rw [if_neg c35] at H
                      exact absurd H (by simp)
                  · rw [if_neg c34] at H
                    have c34b0 : decide (x56_3 < (l0.length : Int)) = false := decide_eq_false c34
                    clear c34
                    replace H := Option.bind_eq_some_iff.mp H
                    obtain ⟨⟨t837, t838, t839⟩, A960, H⟩ := H
                    replace H : (if t837 = 0 then ((wire_Reader_Left.f t838 t839).bind fun bt840 => (if bt840.1 = 0 then ((wire_Reader_Rest.f bt840.2.1 bt840.2.2).bind fun bt843 => (some (bt843.1.toList == ([] : List UInt8)))) else (some false))) else (some false)) = some r := H
                    have A96 := Aside0.mk A960
                    clear A960
                    by_cases c97 : t837 = 0
                    · rw [if_pos c97] at H
                      have c97b0 : (t837 == 0) = true := beq_iff_eq.mpr c97
                      have c97b1 : (t837 != 0) = false := bne_eq_false_iff_eq.mpr c97
                      clear c97
                      replace H := Option.bind_eq_some_iff.mp H
                      obtain ⟨⟨t840, t841, t842⟩, A980, H⟩ := H
                      replace H : (if t840 = 0 then ((wire_Reader_Rest.f t841 t842).bind fun bt843 => (some (bt843.1.toList == ([] : List UInt8)))) else (some false)) = some r := H
                      have A98 := Aside0.mk A980
                      clear A980
                      by_cases c99 : t840 = 0
                      · rw [if_pos c99] at H
                        have c99b0 : (t840 == 0) = true := beq_iff_eq.mpr c99
                        have c99b1 : (t840 != 0) = false := bne_eq_false_iff_eq.mpr c99
                        clear c99
                        replace H := Option.bind_eq_some_iff.mp H
                        obtain ⟨⟨t843, t844, t845⟩, A1000, H⟩ := H
                        replace H : (some (t843.toList == ([] : List UInt8))) = some r := H
                        have A100 := Aside0.mk A1000
                        clear A1000
                        obtain rfl := Option.some.inj H
                        go_wp2_with (first | ((with_reducible refine gate_callee (f := 65) rfl ?_); refine goesL_ (some 96) rfl rfl Try.func65 (by kernel_rfl) rfl #[.pointer (some ⟨g836, 0, none⟩)] rfl (by (try simp only [List.map_toArray, List.map_cons, List.map_nil]); first | done | rfl | (simp only [List.length_drop, List.length_take]; rfl)) ?_; (with_reducible refine (wire_Reader_End.calls g836 x837000_3 x837001_3 t837 t838 t839 w _ ?side1 ?side2 A96.out).mono ?_); (case side1 => repeat (first | (with_reducible first | exact HI836.out | apply IsS110.alloc | apply IsS110.drewN | apply IsS110.drew | apply IsS110.set_0 | apply IsS110.set_1) | exact HI836.out)); (case side2 => repeat (first | (with_reducible first | exact HB.out | apply below_alloc | apply pw_below_drewN | apply below_drew1 | refine below_set ?_ (IsS110.ge HI836.out)) | exact HB.out)); rintro e w101 ⟨rfl, hi, hb, hk⟩; refine ⟨_, rfl, ?_⟩; have n0_ := Aside0.mk (hb); have n1_ := Aside0.mk (hi); clear HB; clear HI836; have HB := n0_; have HI836 := n1_; clear n0_ n1_; (try clear hb); (try clear hb2); (try clear hk); (try clear hi)) | (go_at_call 78; (with_reducible refine (wire_Reader_Left.calls g836 t838 t839 t840 t841 t842 w _ ?side1 ?side2 A98.out).mono ?_); (case side1 => repeat (first | (with_reducible first | exact HI836.out | apply IsS110.alloc | apply IsS110.drewN | apply IsS110.drew | apply IsS110.set_0 | apply IsS110.set_1) | exact HI836.out)); (case side2 => repeat (first | (with_reducible first | exact HB.out | apply below_alloc | apply pw_below_drewN | apply below_drew1 | refine below_set ?_ (IsS110.ge HI836.out)) | exact HB.out)); rintro e w102 ⟨rfl, hi, hb, hk⟩; have n0_ := Aside0.mk (hb); have n1_ := Aside0.mk (hi); clear HB; clear HI836; have HB := n0_; have HI836 := n1_; clear n0_ n1_; (try clear hb); (try clear hb2); (try clear hk); (try clear hi)) | (go_at_call 79; (with_reducible refine (wire_Reader_Rest.calls g836 t841 t842 t843 t844 t845 w _ ?side1 ?side2 A100.out).mono ?_); (case side1 => repeat (first | (with_reducible first | exact HI836.out | apply IsS110.alloc | apply IsS110.drewN | apply IsS110.drew | apply IsS110.set_0 | apply IsS110.set_1) | exact HI836.out)); (case side2 => repeat (first | (with_reducible first | exact HB.out | apply below_alloc | apply pw_below_drewN | apply below_drew1 | refine below_set ?_ (IsS110.ge HI836.out)) | exact HB.out)); rintro e w103 ⟨rfl, hi, hb, hk⟩; have n0_ := Aside0.mk (hb); have n1_ := Aside0.mk (hi); clear HB; clear HI836; have HB := n0_; have HI836 := n1_; clear n0_ n1_; (try clear hb); (try clear hb2); (try clear hk); (try clear hi)))
                        go_ret
                        exact ⟨by first | rfl | (simp [errW_none, errW_some] <;> rfl) | (simp [*, errW_none, errW_some] <;> rfl), by repeat (first | (with_reducible first | exact HB.out | apply below_alloc | apply pw_below_drewN | apply below_drew1 | refine below_set ?_ (IsS110.ge HI836.out)) | exact HB.out)⟩
                      · rw [if_neg c99] at H
                        have c99b0 : (t840 == 0) = false := beq_eq_false_iff_ne.mpr c99
                        have c99b1 : (t840 != 0) = true := bne_iff_ne.mpr c99
                        obtain rfl := Option.some.inj H
                        go_wp2_with (first | ((with_reducible refine gate_callee (f := 65) rfl ?_); refine goesL_ (some 96) rfl rfl Try.func65 (by kernel_rfl) rfl #[.pointer (some ⟨g836, 0, none⟩)] rfl (by (try simp only [List.map_toArray, List.map_cons, List.map_nil]); first | done | rfl | (simp only [List.length_drop, List.length_take]; rfl)) ?_; (with_reducible refine (wire_Reader_End.calls g836 x837000_3 x837001_3 t837 t838 t839 w _ ?side1 ?side2 A96.out).mono ?_); (case side1 => repeat (first | (with_reducible first | exact HI836.out | apply IsS110.alloc | apply IsS110.drewN | apply IsS110.drew | apply IsS110.set_0 | apply IsS110.set_1) | exact HI836.out)); (case side2 => repeat (first | (with_reducible first | exact HB.out | apply below_alloc | apply pw_below_drewN | apply below_drew1 | refine below_set ?_ (IsS110.ge HI836.out)) | exact HB.out)); rintro e w104 ⟨rfl, hi, hb, hk⟩; refine ⟨_, rfl, ?_⟩; have n0_ := Aside0.mk (hb); have n1_ := Aside0.mk (hi); clear HB; clear HI836; have HB := n0_; have HI836 := n1_; clear n0_ n1_; (try clear hb); (try clear hb2); (try clear hk); (try clear hi)) | (go_at_call 78; (with_reducible refine (wire_Reader_Left.calls g836 t838 t839 t840 t841 t842 w _ ?side1 ?side2 A98.out).mono ?_); (case side1 => repeat (first | (with_reducible first | exact HI836.out | apply IsS110.alloc | apply IsS110.drewN | apply IsS110.drew | apply IsS110.set_0 | apply IsS110.set_1) | exact HI836.out)); (case side2 => repeat (first | (with_reducible first | exact HB.out | apply below_alloc | apply pw_below_drewN | apply below_drew1 | refine below_set ?_ (IsS110.ge HI836.out)) | exact HB.out)); rintro e w105 ⟨rfl, hi, hb, hk⟩; have n0_ := Aside0.mk (hb); have n1_ := Aside0.mk (hi); clear HB; clear HI836; have HB := n0_; have HI836 := n1_; clear n0_ n1_; (try clear hb); (try clear hb2); (try clear hk); (try clear hi)))
                        go_ret
                        exact ⟨by first | rfl | (simp [errW_none, errW_some] <;> rfl) | (simp [*, errW_none, errW_some] <;> rfl), by repeat (first | (with_reducible first | exact HB.out | apply below_alloc | apply pw_below_drewN | apply below_drew1 | refine below_set ?_ (IsS110.ge HI836.out)) | exact HB.out)⟩
                    · rw [if_neg c97] at H
                      have c97b0 : (t837 == 0) = false := beq_eq_false_iff_ne.mpr c97
                      have c97b1 : (t837 != 0) = true := bne_iff_ne.mpr c97
                      obtain rfl := Option.some.inj H
                      go_wp2_with (first | ((with_reducible refine gate_callee (f := 65) rfl ?_); refine goesL_ (some 96) rfl rfl Try.func65 (by kernel_rfl) rfl #[.pointer (some ⟨g836, 0, none⟩)] rfl (by (try simp only [List.map_toArray, List.map_cons, List.map_nil]); first | done | rfl | (simp only [List.length_drop, List.length_take]; rfl)) ?_; (with_reducible refine (wire_Reader_End.calls g836 x837000_3 x837001_3 t837 t838 t839 w _ ?side1 ?side2 A96.out).mono ?_); (case side1 => repeat (first | (with_reducible first | exact HI836.out | apply IsS110.alloc | apply IsS110.drewN | apply IsS110.drew | apply IsS110.set_0 | apply IsS110.set_1) | exact HI836.out)); (case side2 => repeat (first | (with_reducible first | exact HB.out | apply below_alloc | apply pw_below_drewN | apply below_drew1 | refine below_set ?_ (IsS110.ge HI836.out)) | exact HB.out)); rintro e w106 ⟨rfl, hi, hb, hk⟩; refine ⟨_, rfl, ?_⟩; have n0_ := Aside0.mk (hb); have n1_ := Aside0.mk (hi); clear HB; clear HI836; have HB := n0_; have HI836 := n1_; clear n0_ n1_; (try clear hb); (try clear hb2); (try clear hk); (try clear hi)))
                      go_ret
                      exact ⟨by first | rfl | (simp [errW_none, errW_some] <;> rfl) | (simp [*, errW_none, errW_some] <;> rfl), by repeat (first | (with_reducible first | exact HB.out | apply below_alloc | apply pw_below_drewN | apply below_drew1 | refine below_set ?_ (IsS110.ge HI836.out)) | exact HB.out)⟩

end Go.Proofs.Ytegefemkmdlmaaa.P
