-- Printed by a program of this session (hand.py) out of the translation. Lean checks it.
import Derived.Test.YtegefemkmdlmaaaF0
import Derived.Test.YtegefemkmdlmaaaGa
import Derived.Test.YtegefemkmdlmaaaF70
import Derived.Test.YtegefemkmdlmaaaF72
import Derived.Test.YtegefemkmdlmaaaF74
import Derived.Test.YtegefemkmdlmaaaF76
import Derived.Test.YtegefemkmdlmaaaF77
import Derived.Test.YtegefemkmdlmaaaF80
namespace Go.Proofs.Ytegefemkmdlmaaa.P
open Go.RowKit Go.Proofs.YtegefemkmdlmaaaW.PrintWords Go.Proofs.YtegefemkmdlmaaaW.PrintLast Go.Proofs.YtegefemkmdlmaaaW.PrintMore
attribute [local go_sem] max2_int min2_int max_two min_two max_three min_three max_four min_four   -- for this text's walks alone
set_option linter.unusedVariables false
set_option linter.unusedSimpArgs false

/-! ### dasdlaw01_WireReads: function 14 -/
mutual
def dasdlaw01_WireReads.j0 : Nat → ByteArray → List (S71) → Bool → Option (Bool)
  | 0, _, _, _ => none
  | k + 1, x0, x1, x31 => if x31 = true then ((dasdlaw01_awake.f k).bind fun t710 => (some t710)) else ((wire_NewReader.f x0).bind fun bt711 => (dasdlaw01_WireReads.l0 k x1 (x1.length : Int) 0 bt711.1 bt711.2 x0 0))
def dasdlaw01_WireReads.l0 : Nat → List (S71) → Int → Int → ByteArray → Int → ByteArray → Int → Option (Bool)
  | 0, _, _, _, _, _, _, _ => none
  | k + 1, x39, x40, x41, x714000, x714001, x715000, x715001 => if x41 < x40 then (if 0 ≤ x41 then (if x41 < (x39.length : Int) then (if (Int.tmod ((rd_T71 x39 x41).f0) 5) = 0 then ((dasdref01_ReadNumber.f k x715000 x715001).bind fun bt717 => ((wire_Reader_Number.f x714000 x714001).bind fun bt721 => (dasdlaw01_WireReads.j2 k (bt721.1 == bt717.1) x39 x40 x41 bt721.2.1 bt721.2.2 bt717.2.1 bt717.2.2))) else (if (Int.tmod ((rd_T71 x39 x41).f0) 5) = 1 then ((dasdref01_ReadInt.f k x715000 x715001).bind fun bt724 => ((wire_Reader_Int.f x714000 x714001).bind fun bt728 => (dasdlaw01_WireReads.j2 k (bt728.1 == bt724.1) x39 x40 x41 bt728.2.1 bt728.2.2 bt724.2.1 bt724.2.2))) else (if (Int.tmod ((rd_T71 x39 x41).f0) 5) = 2 then ((dasdref01_ReadBool.f x715000 x715001).bind fun bt731 => ((wire_Reader_Bool.f x714000 x714001).bind fun bt735 => (dasdlaw01_WireReads.j2 k (bt735.1 == bt731.1) x39 x40 x41 bt735.2.1 bt735.2.2 bt731.2.1 bt731.2.2))) else (if (Int.tmod ((rd_T71 x39 x41).f0) 5) = 3 then ((dasdref01_ReadText.f k x715000 x715001 ((rd_T71 x39 x41).f1)).bind fun bt738 => ((wire_Reader_Text.f x714000 x714001 ((rd_T71 x39 x41).f1)).bind fun bt742 => (dasdlaw01_WireReads.j2 k (bt742.1.toList == bt738.1.toList) x39 x40 x41 bt742.2.1 bt742.2.2 bt738.2.1 bt738.2.2))) else (if (Int.tmod ((rd_T71 x39 x41).f0) 5) = 4 then ((dasdref01_ReadCount.f k x715000 x715001 ((rd_T71 x39 x41).f1)).bind fun bt745 => ((wire_Reader_Count.f x714000 x714001 ((rd_T71 x39 x41).f1)).bind fun bt749 => (dasdlaw01_WireReads.j2 k (bt749.1 == bt745.1) x39 x40 x41 bt749.2.1 bt749.2.2 bt745.2.1 bt745.2.2))) else (dasdlaw01_WireReads.j2 k false x39 x40 x41 x714000 x714001 x715000 x715001)))))) else (none)) else (none)) else (some true)
def dasdlaw01_WireReads.j2 : Nat → Bool → List (S71) → Int → Int → ByteArray → Int → ByteArray → Int → Option (Bool)
  | 0, _, _, _, _, _, _, _, _ => none
  | k + 1, x9, x39, x40, x41, x714000, x714001, x715000, x715001 => if x9 = true then ((wire_Reader_Left.f x714000 x714001).bind fun bt752 => (if bt752.1 = (x715000.size : Int) then ((wire_Reader_Rest.f bt752.2.1 bt752.2.2).bind fun bt755 => (if bt755.1.toList = x715000.toList then ((wire_Reader_End.f bt755.2.1 bt755.2.2).bind fun bt758 => ((dasdref01_End.f x715000 x715001).bind fun t761 => (if bt758.1 = t761 then (dasdlaw01_WireReads.l0 k x39 x40 (wrap64 (x41 + 1)) bt758.2.1 bt758.2.2 x715000 x715001) else (some false)))) else (some false))) else (some false))) else (some false)
end
def dasdlaw01_WireReads.f (k : Nat) (a0 : ByteArray) (l1 : List (S71)) : Option (Bool) := (dasdlaw01_awake.f k).bind fun t709 => (if t709 = true then (if (a0.size : Int) > 500 then (dasdlaw01_WireReads.j0 k a0 l1 true) else (dasdlaw01_WireReads.j0 k a0 l1 (decide ((l1.length : Int) > 30)))) else (dasdlaw01_WireReads.j0 k a0 l1 true))
theorem dasdlaw01_WireReads.mono_l : ∀ k, (∀ y0 y1 y2, LeO (dasdlaw01_WireReads.j0 k y0 y1 y2) (dasdlaw01_WireReads.j0 (k + 1) y0 y1 y2)) ∧ (∀ y0 y1 y2 y3 y4 y5 y6, LeO (dasdlaw01_WireReads.l0 k y0 y1 y2 y3 y4 y5 y6) (dasdlaw01_WireReads.l0 (k + 1) y0 y1 y2 y3 y4 y5 y6)) ∧ (∀ y0 y1 y2 y3 y4 y5 y6 y7, LeO (dasdlaw01_WireReads.j2 k y0 y1 y2 y3 y4 y5 y6 y7) (dasdlaw01_WireReads.j2 (k + 1) y0 y1 y2 y3 y4 y5 y6 y7))
  | 0 => ⟨fun _ _ _ r h => by simp [dasdlaw01_WireReads.j0] at h, fun _ _ _ _ _ _ _ r h => by simp [dasdlaw01_WireReads.l0] at h, fun _ _ _ _ _ _ _ _ r h => by simp [dasdlaw01_WireReads.j2] at h⟩
  | k + 1 => by
    obtain ⟨ih0, ih1, ih2⟩ := dasdlaw01_WireReads.mono_l k
    refine ⟨?_, ?_, ?_⟩
    · intro y0 y1 y2
      unfold dasdlaw01_WireReads.j0
      repeat' first
      | (with_reducible exact ih0 _ _ _)
      | (with_reducible exact ih1 _ _ _ _ _ _ _)
      | (with_reducible exact ih2 _ _ _ _ _ _ _ _)
      | (with_reducible exact dasdlaw01_awake.mono _)
      | (with_reducible exact dasdref01_ReadCount.mono _ _ _ _)
      | (with_reducible exact dasdref01_ReadInt.mono _ _ _)
      | (with_reducible exact dasdref01_ReadNumber.mono _ _ _)
      | (with_reducible exact dasdref01_ReadText.mono _ _ _ _)
      | (with_reducible exact LeO.refl _)
      | (with_reducible exact LeO.none _)
      | (with_reducible refine LeO.ite ?_ ?_)
      | (with_reducible refine LeO.bind ?_ (fun _ => ?_))
      | exact ih0 _ _ _
      | exact ih1 _ _ _ _ _ _ _
      | exact ih2 _ _ _ _ _ _ _ _
      | exact dasdlaw01_awake.mono _
      | exact dasdref01_ReadCount.mono _ _ _ _
      | exact dasdref01_ReadInt.mono _ _ _
      | exact dasdref01_ReadNumber.mono _ _ _
      | exact dasdref01_ReadText.mono _ _ _ _
      | exact LeO.none _
      | refine LeO.ite ?_ ?_
      | refine LeO.bind ?_ (fun _ => ?_)
    · intro y0 y1 y2 y3 y4 y5 y6
      unfold dasdlaw01_WireReads.l0
      repeat' first
      | (with_reducible exact ih0 _ _ _)
      | (with_reducible exact ih1 _ _ _ _ _ _ _)
      | (with_reducible exact ih2 _ _ _ _ _ _ _ _)
      | (with_reducible exact dasdlaw01_awake.mono _)
      | (with_reducible exact dasdref01_ReadCount.mono _ _ _ _)
      | (with_reducible exact dasdref01_ReadInt.mono _ _ _)
      | (with_reducible exact dasdref01_ReadNumber.mono _ _ _)
      | (with_reducible exact dasdref01_ReadText.mono _ _ _ _)
      | (with_reducible exact LeO.refl _)
      | (with_reducible exact LeO.none _)
      | (with_reducible refine LeO.ite ?_ ?_)
      | (with_reducible refine LeO.bind ?_ (fun _ => ?_))
      | exact ih0 _ _ _
      | exact ih1 _ _ _ _ _ _ _
      | exact ih2 _ _ _ _ _ _ _ _
      | exact dasdlaw01_awake.mono _
      | exact dasdref01_ReadCount.mono _ _ _ _
      | exact dasdref01_ReadInt.mono _ _ _
      | exact dasdref01_ReadNumber.mono _ _ _
      | exact dasdref01_ReadText.mono _ _ _ _
      | exact LeO.none _
      | refine LeO.ite ?_ ?_
      | refine LeO.bind ?_ (fun _ => ?_)
    · intro y0 y1 y2 y3 y4 y5 y6 y7
      unfold dasdlaw01_WireReads.j2
      repeat' first
      | (with_reducible exact ih0 _ _ _)
      | (with_reducible exact ih1 _ _ _ _ _ _ _)
      | (with_reducible exact ih2 _ _ _ _ _ _ _ _)
      | (with_reducible exact dasdlaw01_awake.mono _)
      | (with_reducible exact dasdref01_ReadCount.mono _ _ _ _)
      | (with_reducible exact dasdref01_ReadInt.mono _ _ _)
      | (with_reducible exact dasdref01_ReadNumber.mono _ _ _)
      | (with_reducible exact dasdref01_ReadText.mono _ _ _ _)
      | (with_reducible exact LeO.refl _)
      | (with_reducible exact LeO.none _)
      | (with_reducible refine LeO.ite ?_ ?_)
      | (with_reducible refine LeO.bind ?_ (fun _ => ?_))
      | exact ih0 _ _ _
      | exact ih1 _ _ _ _ _ _ _
      | exact ih2 _ _ _ _ _ _ _ _
      | exact dasdlaw01_awake.mono _
      | exact dasdref01_ReadCount.mono _ _ _ _
      | exact dasdref01_ReadInt.mono _ _ _
      | exact dasdref01_ReadNumber.mono _ _ _
      | exact dasdref01_ReadText.mono _ _ _ _
      | exact LeO.none _
      | refine LeO.ite ?_ ?_
      | refine LeO.bind ?_ (fun _ => ?_)
theorem dasdlaw01_WireReads.mono : ∀ a0 a1 k, LeO (dasdlaw01_WireReads.f k a0 a1) (dasdlaw01_WireReads.f (k + 1) a0 a1) := by
  intro a0 a1 k
  obtain ⟨ih0, ih1, ih2⟩ := dasdlaw01_WireReads.mono_l k
  unfold dasdlaw01_WireReads.f
  repeat' first
      | (with_reducible exact ih0 _ _ _)
      | (with_reducible exact ih1 _ _ _ _ _ _ _)
      | (with_reducible exact ih2 _ _ _ _ _ _ _ _)
      | (with_reducible exact dasdlaw01_awake.mono _)
      | (with_reducible exact dasdref01_ReadCount.mono _ _ _ _)
      | (with_reducible exact dasdref01_ReadInt.mono _ _ _)
      | (with_reducible exact dasdref01_ReadNumber.mono _ _ _)
      | (with_reducible exact dasdref01_ReadText.mono _ _ _ _)
      | (with_reducible exact LeO.refl _)
      | (with_reducible exact LeO.none _)
      | (with_reducible refine LeO.ite ?_ ?_)
      | (with_reducible refine LeO.bind ?_ (fun _ => ?_))
      | exact ih0 _ _ _
      | exact ih1 _ _ _ _ _ _ _
      | exact ih2 _ _ _ _ _ _ _ _
      | exact dasdlaw01_awake.mono _
      | exact dasdref01_ReadCount.mono _ _ _ _
      | exact dasdref01_ReadInt.mono _ _ _
      | exact dasdref01_ReadNumber.mono _ _ _
      | exact dasdref01_ReadText.mono _ _ _ _
      | exact LeO.none _
      | refine LeO.ite ?_ ?_
      | refine LeO.bind ?_ (fun _ => ?_)
def dasdlaw01_WireReads.T22 : Bool × List (List Nat × List Nat) := (true, [([], []), ([], []), ([1], [1]), ([0, 2], [0, 2]), ([], []), ([3, 4], [3, 4]), ([], []), ([5, 3, 0, 1, 2, 3, 4, 5], [5]), ([6, 7, 0, 1, 2, 3, 4, 5, 6, 7], [6])])
def dasdlaw01_WireReads.B22 : List Nat := [0, 0, 2, 7, 0, 31, 0, 63, 255]
theorem dasdlaw01_WireReads.tab22 : rtab .any (opsOf Try.f14 22) = dasdlaw01_WireReads.T22 := by kernel_rfl
theorem dasdlaw01_WireReads.bits22 : waitsOk dasdlaw01_WireReads.T22.2 dasdlaw01_WireReads.B22 = true := by kernel_rfl
def dasdlaw01_WireReads.T25 : Bool × List (List Nat × List Nat) := (true, [([], []), ([], []), ([1], [1]), ([0, 2], [0, 2]), ([], []), ([3, 4], [3, 4]), ([], []), ([5, 3, 0, 1, 2, 3, 4, 5], [5]), ([6, 7, 0, 1, 2, 3, 4, 5, 6, 7], [6])])
def dasdlaw01_WireReads.B25 : List Nat := [0, 0, 2, 7, 0, 31, 0, 63, 255]
theorem dasdlaw01_WireReads.tab25 : rtab .any (opsOf Try.f14 25) = dasdlaw01_WireReads.T25 := by kernel_rfl
theorem dasdlaw01_WireReads.bits25 : waitsOk dasdlaw01_WireReads.T25.2 dasdlaw01_WireReads.B25 = true := by kernel_rfl
def dasdlaw01_WireReads.T26 : Bool × List (List Nat × List Nat) := (true, [([], []), ([0], [0]), ([1], [1]), ([2], [2]), ([3, 2, 2], [2, 3]), ([2], [2]), ([5, 2], [2, 5]), ([6, 2], [2, 6]), ([4, 7, 2], [2, 4, 7]), ([2, 8], [2, 8]), ([9, 4], [9]), ([10], [10]), ([11, 10, 10], [10, 11]), ([10], [10]), ([13, 10], [10, 13]), ([12, 14, 10], [10, 12, 14]), ([10, 15], [10, 15]), ([16, 12], [16]), ([17], [17]), ([18, 17, 17], [17, 18]), ([17], [17]), ([20, 19, 17], [17, 20]), ([19, 21, 17], [17, 19, 21]), ([17, 22], [17, 22])])
def dasdlaw01_WireReads.B26 : List Nat := [0, 1, 3, 7, 15, 7, 39, 103, 255, 511, 1023, 2047, 4095, 2047, 10239, 32767, 65535, 131071, 262143, 524287, 262143, 2097151, 4194303, 8388607]
theorem dasdlaw01_WireReads.tab26 : rtab .any (opsOf Try.f14 26) = dasdlaw01_WireReads.T26 := by kernel_rfl
theorem dasdlaw01_WireReads.bits26 : waitsOk dasdlaw01_WireReads.T26.2 dasdlaw01_WireReads.B26 = true := by kernel_rfl
set_option maxHeartbeats 8000000 in
set_option maxRecDepth 100000 in
theorem dasdlaw01_WireReads.calls (k : Nat) (a0 : ByteArray) (A1 : Option Addr) (c1 : Nat) (l1 : List (S71)) (r : Bool) (w : World) (hr1 : Kd.C k71 w A1 l1.length l1) (hc1 : l1.length ≤ c1) (h : dasdlaw01_WireReads.f k a0 l1 = some r) :
    Calls Try.prog 14 #[.string a0, .slice A1 l1.length c1] w fun e w' => e = .returned (.bool r) ∧ Below w.heap.size w w' := by
  have hu69 := Try.underlying69
  have hu71 := Try.underlying71
  have HR1 := Aside0.mk hr1
  have HC1 := Aside0.mk hc1
  clear hr1 hc1
  have HB := Aside0.mk (Below.refl w.heap.size w)
  have H : ((dasdlaw01_awake.f k).bind fun t709 => (if t709 = true then (if (a0.size : Int) > 500 then (dasdlaw01_WireReads.j0 k a0 l1 true) else (dasdlaw01_WireReads.j0 k a0 l1 (decide ((l1.length : Int) > 30)))) else (dasdlaw01_WireReads.j0 k a0 l1 true))) = some r := h
  clear h
  have HC3 := Aside0.mk H
  clear H
  go_enter Try.func14, Try.ntmps14
  go_upto_region 1 with (fail)
  go_cut [31] (fun v31 wc => ∃ (kq : Nat) (x31_2 : Bool), v31 = .bool x31_2 ∧ Aside0 (dasdlaw01_WireReads.j0 kq a0 l1 x31_2 = some r) ∧ Aside0 (kq ≤ k) ∧ Aside0 (Below w.heap.size w wc))
  case first =>
    have H := HC3.out
    clear HC3
    replace H := Option.bind_eq_some_iff.mp H
    obtain ⟨t709, A40, H⟩ := H
    replace H : (if t709 = true then (if (a0.size : Int) > 500 then (dasdlaw01_WireReads.j0 k a0 l1 true) else (dasdlaw01_WireReads.j0 k a0 l1 (decide ((l1.length : Int) > 30)))) else (dasdlaw01_WireReads.j0 k a0 l1 true)) = some r := H
    have A4 := Aside0.mk A40
    clear A40
    by_cases c5 : t709 = true
    · subst c5
      have H1 : (if (a0.size : Int) > 500 then (dasdlaw01_WireReads.j0 k a0 l1 true) else (dasdlaw01_WireReads.j0 k a0 l1 (decide ((l1.length : Int) > 30)))) = some r := by rw [if_pos rfl] at H; exact H
      clear H
      have H := H1
      clear H1
      by_cases c6 : (a0.size : Int) > 500
      · rw [if_pos c6] at H
        have c6b0 : decide (500 < (a0.size : Int)) = true := decide_eq_true c6
        have c6b1 : decide (500 < a0.size) = true := decide_eq_true (by omega)
        clear c6
        (first | rw [c6b0] | (simp only [i64_w, i32_w]; rw [c6b0]) | skip)
        have H' := Aside0.mk H
        clear H
        go_wp2_with (first | ((with_reducible refine gate_callee (f := 25) rfl ?_); refine goesL_ (some 20) rfl rfl Try.func25 (by kernel_rfl) rfl #[] rfl (by (try simp only [List.map_toArray, List.map_cons, List.map_nil]); first | done | rfl | (simp only [List.length_drop, List.length_take]; rfl)) ?_; (with_reducible refine (dasdlaw01_awake.calls k  true _ A4.out).mono ?_); rintro e w7 ⟨rfl, hb⟩; refine ⟨_, rfl, ?_⟩; have n0_ := Aside0.mk (below_step (by repeat (first | (with_reducible first | exact HB.out | apply below_alloc | apply pw_below_drewN | apply below_drew1) | exact HB.out)) hb); clear HB; have HB := n0_; clear n0_; (try clear hb); (try clear hb2); (try clear hk); (try clear hi)))
        go_meet
        case rel => exact ⟨_, (true), (by first | rfl | (simp; done) | (simp [*]; done)), H', ⟨by first | omega | exact Nat.le_refl _⟩, ⟨by repeat (first | (with_reducible first | exact HB.out | apply below_alloc | apply pw_below_drewN | apply below_drew1) | exact HB.out)⟩⟩
      · rw [if_neg c6] at H
        have c6b0 : decide (500 < (a0.size : Int)) = false := decide_eq_false c6
        have c6b1 : decide (500 < a0.size) = false := decide_eq_false (by omega)
        clear c6
        (first | rw [c6b0] | (simp only [i64_w, i32_w]; rw [c6b0]) | skip)
        have H' := Aside0.mk H
        clear H
        go_wp2_with (first | ((with_reducible refine gate_callee (f := 25) rfl ?_); refine goesL_ (some 20) rfl rfl Try.func25 (by kernel_rfl) rfl #[] rfl (by (try simp only [List.map_toArray, List.map_cons, List.map_nil]); first | done | rfl | (simp only [List.length_drop, List.length_take]; rfl)) ?_; (with_reducible refine (dasdlaw01_awake.calls k  true _ A4.out).mono ?_); rintro e w8 ⟨rfl, hb⟩; refine ⟨_, rfl, ?_⟩; have n0_ := Aside0.mk (below_step (by repeat (first | (with_reducible first | exact HB.out | apply below_alloc | apply pw_below_drewN | apply below_drew1) | exact HB.out)) hb); clear HB; have HB := n0_; clear n0_; (try clear hb); (try clear hb2); (try clear hk); (try clear hi)))
        go_meet
        case rel => exact ⟨_, (decide ((l1.length : Int) > 30)), (by first | rfl | (simp; done) | (simp [*]; done)), H', ⟨by first | omega | exact Nat.le_refl _⟩, ⟨by repeat (first | (with_reducible first | exact HB.out | apply below_alloc | apply pw_below_drewN | apply below_drew1) | exact HB.out)⟩⟩
    · replace c5 := Bool.eq_false_iff.mpr c5
      subst c5
      have H1 : (dasdlaw01_WireReads.j0 k a0 l1 true) = some r := by rw [if_neg (show ¬ (false = true) by decide)] at H; exact H
      clear H
      have H := H1
      clear H1
      have H' := Aside0.mk H
      clear H
      go_wp2_with (first | ((with_reducible refine gate_callee (f := 25) rfl ?_); refine goesL_ (some 20) rfl rfl Try.func25 (by kernel_rfl) rfl #[] rfl (by (try simp only [List.map_toArray, List.map_cons, List.map_nil]); first | done | rfl | (simp only [List.length_drop, List.length_take]; rfl)) ?_; (with_reducible refine (dasdlaw01_awake.calls k  false _ A4.out).mono ?_); rintro e w9 ⟨rfl, hb⟩; refine ⟨_, rfl, ?_⟩; have n0_ := Aside0.mk (below_step (by repeat (first | (with_reducible first | exact HB.out | apply below_alloc | apply pw_below_drewN | apply below_drew1) | exact HB.out)) hb); clear HB; have HB := n0_; clear n0_; (try clear hb); (try clear hb2); (try clear hk); (try clear hi)))
      go_meet
      case rel => exact ⟨_, (true), (by first | rfl | (simp; done) | (simp [*]; done)), H', ⟨by first | omega | exact Nat.le_refl _⟩, ⟨by repeat (first | (with_reducible first | exact HB.out | apply below_alloc | apply pw_below_drewN | apply below_drew1) | exact HB.out)⟩⟩
  case rest =>
    clear HC3
    try clear c1
    try clear c2
    try clear p2
    try clear c5
    try clear c6
    try clear c6b0
    try clear c6b1
    obtain ⟨kq, x31_2, rfl, HA, HJ2, HB⟩ := hcut
    cases kq with
    | zero => exact absurd HA.out (by simp [dasdlaw01_WireReads.j0])
    | succ kj2 =>
      have H := HA.out
      clear HA
      simp only [dasdlaw01_WireReads.j0] at H
      by_cases c10 : x31_2 = true
      · subst c10
        have H1 : ((dasdlaw01_awake.f kj2).bind fun t710 => (some t710)) = some r := by rw [if_pos rfl] at H; exact H
        clear H
        have H := H1
        clear H1
        replace H := Option.bind_eq_some_iff.mp H
        obtain ⟨t710, A110, H⟩ := H
        replace H : (some t710) = some r := H
        have A11 := Aside0.mk A110
        clear A110
        obtain rfl := Option.some.inj H
        go_wp2_with (first | ((with_reducible refine gate_callee (f := 25) rfl ?_); refine goesL_ (some 32) rfl rfl Try.func25 (by kernel_rfl) rfl #[] rfl (by (try simp only [List.map_toArray, List.map_cons, List.map_nil]); first | done | rfl | (simp only [List.length_drop, List.length_take]; rfl)) ?_; (with_reducible refine (dasdlaw01_awake.calls kj2  t710 _ A11.out).mono ?_); rintro e w12 ⟨rfl, hb⟩; refine ⟨_, rfl, ?_⟩; have n0_ := Aside0.mk (below_step (by repeat (first | (with_reducible first | exact HB.out | apply below_alloc | apply pw_below_drewN | apply below_drew1) | exact HB.out)) hb); clear HB; have HB := n0_; clear n0_; (try clear hb); (try clear hb2); (try clear hk); (try clear hi)))
        go_ret
        exact ⟨by first | rfl | (simp [errW_none, errW_some] <;> rfl) | (simp [*, errW_none, errW_some] <;> rfl), by repeat (first | (with_reducible first | exact HB.out | apply below_alloc | apply pw_below_drewN | apply below_drew1) | exact HB.out)⟩
      · replace c10 := Bool.eq_false_iff.mpr c10
        subst c10
        have H1 : ((wire_NewReader.f a0).bind fun bt711 => (dasdlaw01_WireReads.l0 kj2 l1 (l1.length : Int) 0 bt711.1 bt711.2 a0 0)) = some r := by rw [if_neg (show ¬ (false = true) by decide)] at H; exact H
        clear H
        have H := H1
        clear H1
        replace H := Option.bind_eq_some_iff.mp H
        obtain ⟨⟨t711, t712⟩, A130, H⟩ := H
        replace H : (dasdlaw01_WireReads.l0 kj2 l1 (l1.length : Int) 0 t711 t712 a0 0) = some r := H
        have A13 := Aside0.mk A130
        clear A130
        have H' := Aside0.mk H
        clear H
        go_wp2_with (first | ((with_reducible refine gate_callee (f := 62) rfl ?_); refine goesL_ (some 34) rfl rfl Try.func62 (by kernel_rfl) rfl #[.string a0] rfl (by (try simp only [List.map_toArray, List.map_cons, List.map_nil]); first | done | rfl | (simp only [List.length_drop, List.length_take]; rfl)) ?_; (with_reducible refine (wire_NewReader.calls a0 t711 t712 w _ ?side1 A13.out).mono ?_); (case side1 => repeat (first | (with_reducible first | exact HB.out | apply below_alloc | apply pw_below_drewN | apply below_drew1) | exact HB.out)); rintro e w14 ⟨g713, rfl, hi, hb, hb2⟩; refine ⟨_, rfl, ?_⟩; have n0_ := Aside0.mk (hb); have n1_ := Aside0.mk (hi); clear HB; have HB := n0_; have HI713 := n1_; clear n0_ n1_; (try clear hb); (try clear hb2); (try clear hk); (try clear hi)) | ((with_reducible refine gate_dst (N := 6) rfl ?_); (try (refine gate_guard (by rfl) ?_; dsimp only)); refine box_event ?hg (N := 6) ?hd (cs := #[.string (⟨#[]⟩ : ByteArray), .int .i64 0]) (t := 69) ?hr ?_; (case hd => rfl); (case hg => rfl); (case hr => first | (go_simp; done) | (go_simp; rfl)); intro gb714 hg w15 hbox hb; have n0_ := Aside0.mk (IsS110.below (by repeat (first | (with_reducible first | exact HI713.out | apply IsS110.alloc | apply IsS110.drewN | apply IsS110.drew | apply IsS110.set_0 | apply IsS110.set_1) | exact HI713.out)) hb); have n1_ := Aside0.mk (below_step (by repeat (first | (with_reducible first | exact HB.out | apply below_alloc | apply pw_below_drewN | apply below_drew1 | refine below_set ?_ (IsS110.ge HI713.out)) | exact HB.out)) hb); have n2_ := Aside0.mk (hbox); have n3_ := Aside0.mk ((by rw [hg]; exact (below_size (by repeat (first | (with_reducible first | exact HB.out | apply below_alloc | apply pw_below_drewN | apply below_drew1 | refine below_set ?_ (IsS110.ge HI713.out)) | exact HB.out))) : w.heap.size ≤ gb714)); have n4_ := Aside0.mk ((by rw [hg]; exact (below_size (by repeat (first | (with_reducible first | exact HB.out | apply below_alloc | apply pw_below_drewN | apply below_drew1 | refine below_set ?_ (IsS110.ge HI713.out)) | exact HB.out))) : w.heap.size ≤ gb714)); have n5_ := Aside0.mk ((by rw [hg]; exact Nat.ne_of_lt (IsS110.lt (show IsS110 w _ g713 t711 t712 from by repeat (first | (with_reducible first | exact HI713.out | apply IsS110.alloc | apply IsS110.drewN | apply IsS110.drew | apply IsS110.set_0 | apply IsS110.set_1) | exact HI713.out))) : g713 ≠ gb714)); have n6_ := Aside0.mk ((by rw [hg]; exact Nat.ne_of_gt (IsS110.lt (show IsS110 w _ g713 t711 t712 from by repeat (first | (with_reducible first | exact HI713.out | apply IsS110.alloc | apply IsS110.drewN | apply IsS110.drew | apply IsS110.set_0 | apply IsS110.set_1) | exact HI713.out))) : gb714 ≠ g713)); clear HI713; clear HB; have HI713 := n0_; have HB := n1_; have BK714 := n2_; have GW714 := n3_; have GE714 := n4_; have NB713_714 := n5_; have NB714_713 := n6_; clear n0_ n1_ n2_ n3_ n4_ n5_ n6_; clear hb hbox hg; have hnb16 := NB714_713.out; have hnc16 := NB713_714.out; have hcz17_0 : w15.cell? ⟨gb714, 0, none⟩ = some (.string (⟨#[]⟩ : ByteArray)) := (blk_cell BK714.out 0).trans rfl; have hcz17_1 : w15.cell? ⟨gb714, 1, none⟩ = some (.int .i64 0) := (blk_cell BK714.out 1).trans rfl; have hfz17_0 := blk_frozen BK714.out 0; have hfz17_1 := blk_frozen BK714.out 1))
        go_loopg [41] kj2 (fun kq v41 w' => ∃ (x41_2 : Int) (x714000_2 : ByteArray) (x714001_2 : Int) (x715000_2 : ByteArray) (x715001_2 : Int), v41 = .int .i64 x41_2 ∧ Aside0 (dasdlaw01_WireReads.l0 kq l1 (l1.length : Int) x41_2 x714000_2 x714001_2 x715000_2 x715001_2 = some r) ∧ Aside0 (kq ≤ kj2) ∧ Aside0 (w'.heap[gb714]? = some (.cells #[.string x715000_2, .int .i64 x715001_2] 69 (0, 0))) ∧ Aside0 (IsS110 w w' g713 x714000_2 x714001_2) ∧ Aside0 (Below w.heap.size w w'))
        case atStart => exact ⟨(0), (t711), (t712), (a0), (0), (by first | rfl | (simp; done) | (simp [*]; done)), H', ⟨Nat.le_refl _⟩, ⟨by (with_reducible repeat (first | refine blk_drewN ?_ _ | refine blk_drew ?_ | refine blk_alloc ?_ _)); refine blk_put (cs := #[.string a0, .int .i64 0]) ?_ 1 _ rfl; (with_reducible repeat (first | refine blk_drewN ?_ _ | refine blk_drew ?_ | refine blk_alloc ?_ _)); refine blk_put (cs := #[.string (⟨#[]⟩ : ByteArray), .int .i64 0]) ?_ 0 _ rfl; (with_reducible repeat (first | refine blk_drewN ?_ _ | refine blk_drew ?_ | refine blk_alloc ?_ _)); exact BK714.out⟩, ⟨by repeat (first | (with_reducible first | exact HI713.out | apply IsS110.alloc | apply IsS110.drewN | apply IsS110.drew | apply IsS110.set_0 | apply IsS110.set_1 | refine IsS110.far ?_ NB713_714.out _) | exact HI713.out)⟩, ⟨by repeat (first | (with_reducible first | exact HB.out | apply below_alloc | apply pw_below_drewN | apply below_drew1 | refine below_set ?_ (IsS110.ge HI713.out) | refine below_set ?_ GE714.out) | exact HB.out)⟩⟩
        case round =>
          clear H'
          try clear c1
          try clear c2
          try clear p2
          try clear c5
          try clear c6
          try clear c6b0
          try clear c6b1
          try clear c10
          try clear c14
          try clear c16
          try clear hcz17_0
          try clear hcz17_1
          try clear hfz17_0
          try clear hfz17_1
          try clear p2
          obtain ⟨x41_2, x714000_2, x714001_2, x715000_2, x715001_2, rfl, HA, HK2, BK714, HI713, HB⟩ := hrel
          cases gk with
          | zero => exact absurd HA.out (by simp [dasdlaw01_WireReads.l0])
          | succ k2 =>
            have H := HA.out
            clear HA
            simp only [dasdlaw01_WireReads.l0] at H
            by_cases c18 : x41_2 < (l1.length : Int)
            · rw [if_pos c18] at H
              have c18b0 : decide (x41_2 < (l1.length : Int)) = true := decide_eq_true c18
              clear c18
              by_cases c19 : 0 ≤ x41_2
              · rw [if_pos c19] at H
                have c19b0 : decide (0 ≤ x41_2) = true := decide_eq_true c19
                clear c19
                by_cases c20 : x41_2 < (l1.length : Int)
                · rw [if_pos c20] at H
                  have c20b0 : decide (x41_2 < (l1.length : Int)) = true := decide_eq_true c20
                  clear c20
                  have HC21 := Aside0.mk H
                  clear H
                  have p715 : 0 ≤ (x41_2 : Int) := of_decide_eq_true (by first | (with_reducible assumption) | assumption)
                  have q715 : x41_2 < (l1.length : Int) := of_decide_eq_true (by first | (with_reducible assumption) | assumption)
                  obtain ⟨ad715, e715, hx715_0, hx715_1⟩ := at_T71 HR1.out x41_2 p715 q715
                  cases e715
                  replace hx715_0 := (HB.out.cell (World.block_lt_of_cell? w _ hx715_0)).trans hx715_0
                  replace hx715_1 := (HB.out.cell (World.block_lt_of_cell? w _ hx715_1)).trans hx715_1
                  replace p715 := eq_true p715
                  replace q715 := eq_true q715
                  go_upto_block 2 with (first | ((with_reducible refine gate_dst (N := 8) rfl ?_); (try (refine gate_guard (by rfl) ?_; dsimp only)); refine box_event ?hg (N := 8) ?hd (cs := #[.int .u8 0, .int .i64 0]) (t := 71) ?hr ?_; (case hd => rfl); (case hg => rfl); (case hr => first | (go_simp; done) | (go_simp; rfl)); intro gb716 hg w22 hbox hb; have n0_ := Aside0.mk (blk_below (g := gb714) (o := .cells #[.string x715000_2, .int .i64 x715001_2] 69 (0, 0)) (by (with_reducible repeat (first | refine blk_drewN ?_ _ | refine blk_drew ?_ | refine blk_alloc ?_ _)); exact BK714.out) hb); have n1_ := Aside0.mk (IsS110.below (by repeat (first | (with_reducible first | exact HI713.out | apply IsS110.alloc | apply IsS110.drewN | apply IsS110.drew | apply IsS110.set_0 | apply IsS110.set_1 | refine IsS110.far ?_ NB713_714.out _) | exact HI713.out)) hb); have n2_ := Aside0.mk (below_step (by repeat (first | (with_reducible first | exact HB.out | apply below_alloc | apply pw_below_drewN | apply below_drew1 | refine below_set ?_ (IsS110.ge HI713.out) | refine below_set ?_ GE714.out) | exact HB.out)) hb); have n3_ := Aside0.mk (hbox); have n4_ := Aside0.mk ((by rw [hg]; exact (below_size (by repeat (first | (with_reducible first | exact HB.out | apply below_alloc | apply pw_below_drewN | apply below_drew1 | refine below_set ?_ (IsS110.ge HI713.out) | refine below_set ?_ GE714.out) | exact HB.out))) : w.heap.size ≤ gb716)); have n5_ := Aside0.mk ((by rw [hg]; exact (below_size (by repeat (first | (with_reducible first | exact HB.out | apply below_alloc | apply pw_below_drewN | apply below_drew1 | refine below_set ?_ (IsS110.ge HI713.out) | refine below_set ?_ GE714.out) | exact HB.out))) : w.heap.size ≤ gb716)); have n6_ := Aside0.mk ((by rw [hg]; exact Nat.ne_of_lt (blk_lt (g := gb714) (o := .cells #[.string x715000_2, .int .i64 x715001_2] 69 (0, 0)) (by (with_reducible repeat (first | refine blk_drewN ?_ _ | refine blk_drew ?_ | refine blk_alloc ?_ _)); exact BK714.out)) : gb714 ≠ gb716)); have n7_ := Aside0.mk ((by rw [hg]; exact Nat.ne_of_gt (blk_lt (g := gb714) (o := .cells #[.string x715000_2, .int .i64 x715001_2] 69 (0, 0)) (by (with_reducible repeat (first | refine blk_drewN ?_ _ | refine blk_drew ?_ | refine blk_alloc ?_ _)); exact BK714.out)) : gb716 ≠ gb714)); have n8_ := Aside0.mk ((by rw [hg]; exact Nat.ne_of_lt (IsS110.lt (show IsS110 w _ g713 x714000_2 x714001_2 from by repeat (first | (with_reducible first | exact HI713.out | apply IsS110.alloc | apply IsS110.drewN | apply IsS110.drew | apply IsS110.set_0 | apply IsS110.set_1 | refine IsS110.far ?_ NB713_714.out _) | exact HI713.out))) : g713 ≠ gb716)); have n9_ := Aside0.mk ((by rw [hg]; exact Nat.ne_of_gt (IsS110.lt (show IsS110 w _ g713 x714000_2 x714001_2 from by repeat (first | (with_reducible first | exact HI713.out | apply IsS110.alloc | apply IsS110.drewN | apply IsS110.drew | apply IsS110.set_0 | apply IsS110.set_1 | refine IsS110.far ?_ NB713_714.out _) | exact HI713.out))) : gb716 ≠ g713)); clear BK714; clear HI713; clear HB; have BK714 := n0_; have HI713 := n1_; have HB := n2_; have BK716 := n3_; have GW716 := n4_; have GE716 := n5_; have NB714_716 := n6_; have NB716_714 := n7_; have NB713_716 := n8_; have NB716_713 := n9_; clear n0_ n1_ n2_ n3_ n4_ n5_ n6_ n7_ n8_ n9_; clear hb hbox hg; have hnb23 := NB716_714.out; have hnc23 := NB714_716.out; have hnb24 := NB716_713.out; have hnc24 := NB713_716.out; have hcz25_0 : w22.cell? ⟨gb716, 0, none⟩ = some (.int .u8 0) := (blk_cell BK716.out 0).trans rfl; have hcz25_1 : w22.cell? ⟨gb716, 1, none⟩ = some (.int .i64 0) := (blk_cell BK716.out 1).trans rfl; have hfz25_0 := blk_frozen BK716.out 0; have hfz25_1 := blk_frozen BK716.out 1))
                  (try simp only [Act.put, List.setIfInBounds_toArray, List.set_cons_zero, List.set_cons_succ])
                  go_cut [9] (fun v9 wc => ∃ (kq : Nat) (x9_20 : Bool) (x714000_20 : ByteArray) (x714001_20 : Int) (x715000_20 : ByteArray) (x715001_20 : Int), v9 = .bool x9_20 ∧ Aside0 (dasdlaw01_WireReads.j2 kq x9_20 l1 (l1.length : Int) x41_2 x714000_20 x714001_20 x715000_20 x715001_20 = some r) ∧ Aside0 (kq ≤ k2) ∧ Aside0 (wc.heap[gb714]? = some (.cells #[.string x715000_20, .int .i64 x715001_20] 69 (0, 0))) ∧ Aside0 (wc.heap[gb716]? = some (.cells #[.int .u8 ((rd_T71 l1 x41_2).f0), .int .i64 ((rd_T71 l1 x41_2).f1)] 71 (0, 0))) ∧ Aside0 (IsS110 w wc g713 x714000_20 x714001_20) ∧ Aside0 (Below w.heap.size w wc))
                  case first =>
                    have H := HC21.out
                    clear HC21
                    by_cases c26 : (Int.tmod ((rd_T71 l1 x41_2).f0) 5) = 0
                    · rw [if_pos c26] at H
                      have c26b0 : ((Int.tmod ((rd_T71 l1 x41_2).f0) 5) == 0) = true := beq_iff_eq.mpr c26
                      have c26b1 : ((Int.tmod ((rd_T71 l1 x41_2).f0) 5) != 0) = false := bne_eq_false_iff_eq.mpr c26
                      clear c26
                      (first | rw [c26b0] | (simp only [i64_w, i32_w]; rw [c26b0]) | skip)
                      replace H := Option.bind_eq_some_iff.mp H
                      obtain ⟨⟨t717, t718, t719⟩, A270, H⟩ := H
                      replace H : ((wire_Reader_Number.f x714000_2 x714001_2).bind fun bt721 => (dasdlaw01_WireReads.j2 k2 (bt721.1 == t717) l1 (l1.length : Int) x41_2 bt721.2.1 bt721.2.2 t718 t719)) = some r := H
                      have A27 := Aside0.mk A270
                      clear A270
                      replace H := Option.bind_eq_some_iff.mp H
                      obtain ⟨⟨t721, t722, t723⟩, A280, H⟩ := H
                      replace H : (dasdlaw01_WireReads.j2 k2 (t721 == t717) l1 (l1.length : Int) x41_2 t722 t723 t718 t719) = some r := H
                      have A28 := Aside0.mk A280
                      clear A280
                      have H' := Aside0.mk H
                      clear H
                      have hnb29 := NB714_716.out
                      have hnc29 := NB716_714.out
                      have hnb30 := NB714_713.out
                      have hnc30 := NB713_714.out
                      have hcz31_0 : w22.cell? ⟨gb714, 0, none⟩ = some (.string x715000_2) := (blk_cell BK714.out 0).trans rfl
                      have hcz31_1 : w22.cell? ⟨gb714, 1, none⟩ = some (.int .i64 x715001_2) := (blk_cell BK714.out 1).trans rfl
                      have hfz31_0 := blk_frozen BK714.out 0
                      have hfz31_1 := blk_frozen BK714.out 1
                      try go_wp2_with (first | ((with_reducible refine gate_callee (f := 70) rfl ?_); refine goesL_ (some 52) rfl rfl Try.func70 (by kernel_rfl) rfl #[.agg #[.string x715000_2, .int .i64 x715001_2]] rfl (by (try simp only [List.map_toArray, List.map_cons, List.map_nil]); first | done | rfl | (simp only [List.length_drop, List.length_take]; rfl)) ?_; (with_reducible refine (dasdref01_ReadNumber.calls k2 x715000_2 x715001_2 t717 t718 t719 _ A27.out).mono ?_); rintro e w32 ⟨rfl, hb⟩; refine ⟨_, rfl, ?_⟩; have n0_ := Aside0.mk (blk_below (g := gb714) (o := .cells #[.string x715000_2, .int .i64 x715001_2] 69 (0, 0)) (by (with_reducible repeat (first | refine blk_drewN ?_ _ | refine blk_drew ?_ | refine blk_alloc ?_ _)); refine blk_far ?_ NB714_716.out _; (with_reducible repeat (first | refine blk_drewN ?_ _ | refine blk_drew ?_ | refine blk_alloc ?_ _)); refine blk_far ?_ NB714_716.out _; (with_reducible repeat (first | refine blk_drewN ?_ _ | refine blk_drew ?_ | refine blk_alloc ?_ _)); exact BK714.out) hb); have n1_ := Aside0.mk (IsS110.below (show IsS110 w ((w22.setCell ⟨gb716, 0, none⟩ (.int .u8 ((rd_T71 l1 x41_2).f0))).setCell ⟨gb716, 1, none⟩ (.int .i64 ((rd_T71 l1 x41_2).f1))) g713 x714000_2 x714001_2 from by repeat (first | (with_reducible first | exact HI713.out | apply IsS110.alloc | apply IsS110.drewN | apply IsS110.drew | apply IsS110.set_0 | apply IsS110.set_1 | refine IsS110.far ?_ NB713_714.out _ | refine IsS110.far ?_ NB713_716.out _) | exact HI713.out)) hb); have n2_ := Aside0.mk (blk_below (g := gb716) (o := .cells #[.int .u8 ((rd_T71 l1 x41_2).f0), .int .i64 ((rd_T71 l1 x41_2).f1)] 71 (0, 0)) (by (with_reducible repeat (first | refine blk_drewN ?_ _ | refine blk_drew ?_ | refine blk_alloc ?_ _)); refine blk_put (cs := #[.int .u8 ((rd_T71 l1 x41_2).f0), .int .i64 0]) ?_ 1 _ rfl; (with_reducible repeat (first | refine blk_drewN ?_ _ | refine blk_drew ?_ | refine blk_alloc ?_ _)); refine blk_put (cs := #[.int .u8 0, .int .i64 0]) ?_ 0 _ rfl; (with_reducible repeat (first | refine blk_drewN ?_ _ | refine blk_drew ?_ | refine blk_alloc ?_ _)); exact BK716.out) hb); have n3_ := Aside0.mk (below_step (by repeat (first | (with_reducible first | exact HB.out | apply below_alloc | apply pw_below_drewN | apply below_drew1 | refine below_set ?_ (IsS110.ge HI713.out) | refine below_set ?_ GE714.out | refine below_set ?_ GE716.out) | exact HB.out)) hb); clear BK714; clear HI713; clear BK716; clear HB; have BK714 := n0_; have HI713 := n1_; have BK716 := n2_; have HB := n3_; clear n0_ n1_ n2_ n3_; (try clear hb); (try clear hb2); (try clear hk); (try clear hi)) | ((with_reducible refine gate_dst (N := 11) rfl ?_); (try (refine gate_guard (by rfl) ?_; dsimp only)); refine box_event ?hg (N := 11) ?hd (cs := #[.string (⟨#[]⟩ : ByteArray), .int .i64 0]) (t := 69) ?hr ?_; (case hd => rfl); (case hg => rfl); (case hr => first | (go_simp; done) | (go_simp; rfl)); intro gb720 hg w33 hbox hb; have n0_ := Aside0.mk (blk_below (g := gb714) (o := .cells #[.string x715000_2, .int .i64 x715001_2] 69 (0, 0)) (by (with_reducible repeat (first | refine blk_drewN ?_ _ | refine blk_drew ?_ | refine blk_alloc ?_ _)); exact BK714.out) hb); have n1_ := Aside0.mk (IsS110.below (by repeat (first | (with_reducible first | exact HI713.out | apply IsS110.alloc | apply IsS110.drewN | apply IsS110.drew | apply IsS110.set_0 | apply IsS110.set_1 | refine IsS110.far ?_ NB713_714.out _ | refine IsS110.far ?_ NB713_716.out _) | exact HI713.out)) hb); have n2_ := Aside0.mk (blk_below (g := gb716) (o := .cells #[.int .u8 ((rd_T71 l1 x41_2).f0), .int .i64 ((rd_T71 l1 x41_2).f1)] 71 (0, 0)) (by (with_reducible repeat (first | refine blk_drewN ?_ _ | refine blk_drew ?_ | refine blk_alloc ?_ _)); exact BK716.out) hb); have n3_ := Aside0.mk (below_step (by repeat (first | (with_reducible first | exact HB.out | apply below_alloc | apply pw_below_drewN | apply below_drew1 | refine below_set ?_ (IsS110.ge HI713.out) | refine below_set ?_ GE714.out | refine below_set ?_ GE716.out) | exact HB.out)) hb); have n4_ := Aside0.mk (hbox); have n5_ := Aside0.mk ((by rw [hg]; exact (below_size (by repeat (first | (with_reducible first | exact HB.out | apply below_alloc | apply pw_below_drewN | apply below_drew1 | refine below_set ?_ (IsS110.ge HI713.out) | refine below_set ?_ GE714.out | refine below_set ?_ GE716.out) | exact HB.out))) : w.heap.size ≤ gb720)); have n6_ := Aside0.mk ((by rw [hg]; exact (below_size (by repeat (first | (with_reducible first | exact HB.out | apply below_alloc | apply pw_below_drewN | apply below_drew1 | refine below_set ?_ (IsS110.ge HI713.out) | refine below_set ?_ GE714.out | refine below_set ?_ GE716.out) | exact HB.out))) : w.heap.size ≤ gb720)); have n7_ := Aside0.mk ((by rw [hg]; exact Nat.ne_of_lt (blk_lt (g := gb714) (o := .cells #[.string x715000_2, .int .i64 x715001_2] 69 (0, 0)) (by (with_reducible repeat (first | refine blk_drewN ?_ _ | refine blk_drew ?_ | refine blk_alloc ?_ _)); exact BK714.out)) : gb714 ≠ gb720)); have n8_ := Aside0.mk ((by rw [hg]; exact Nat.ne_of_gt (blk_lt (g := gb714) (o := .cells #[.string x715000_2, .int .i64 x715001_2] 69 (0, 0)) (by (with_reducible repeat (first | refine blk_drewN ?_ _ | refine blk_drew ?_ | refine blk_alloc ?_ _)); exact BK714.out)) : gb720 ≠ gb714)); have n9_ := Aside0.mk ((by rw [hg]; exact Nat.ne_of_lt (blk_lt (g := gb716) (o := .cells #[.int .u8 ((rd_T71 l1 x41_2).f0), .int .i64 ((rd_T71 l1 x41_2).f1)] 71 (0, 0)) (by (with_reducible repeat (first | refine blk_drewN ?_ _ | refine blk_drew ?_ | refine blk_alloc ?_ _)); exact BK716.out)) : gb716 ≠ gb720)); have n10_ := Aside0.mk ((by rw [hg]; exact Nat.ne_of_gt (blk_lt (g := gb716) (o := .cells #[.int .u8 ((rd_T71 l1 x41_2).f0), .int .i64 ((rd_T71 l1 x41_2).f1)] 71 (0, 0)) (by (with_reducible repeat (first | refine blk_drewN ?_ _ | refine blk_drew ?_ | refine blk_alloc ?_ _)); exact BK716.out)) : gb720 ≠ gb716)); have n11_ := Aside0.mk ((by rw [hg]; exact Nat.ne_of_lt (IsS110.lt (show IsS110 w _ g713 x714000_2 x714001_2 from by repeat (first | (with_reducible first | exact HI713.out | apply IsS110.alloc | apply IsS110.drewN | apply IsS110.drew | apply IsS110.set_0 | apply IsS110.set_1 | refine IsS110.far ?_ NB713_714.out _ | refine IsS110.far ?_ NB713_716.out _) | exact HI713.out))) : g713 ≠ gb720)); have n12_ := Aside0.mk ((by rw [hg]; exact Nat.ne_of_gt (IsS110.lt (show IsS110 w _ g713 x714000_2 x714001_2 from by repeat (first | (with_reducible first | exact HI713.out | apply IsS110.alloc | apply IsS110.drewN | apply IsS110.drew | apply IsS110.set_0 | apply IsS110.set_1 | refine IsS110.far ?_ NB713_714.out _ | refine IsS110.far ?_ NB713_716.out _) | exact HI713.out))) : gb720 ≠ g713)); clear BK714; clear HI713; clear BK716; clear HB; have BK714 := n0_; have HI713 := n1_; have BK716 := n2_; have HB := n3_; have BK720 := n4_; have GW720 := n5_; have GE720 := n6_; have NB714_720 := n7_; have NB720_714 := n8_; have NB716_720 := n9_; have NB720_716 := n10_; have NB713_720 := n11_; have NB720_713 := n12_; clear n0_ n1_ n2_ n3_ n4_ n5_ n6_ n7_ n8_ n9_ n10_ n11_ n12_; clear hb hbox hg; have hnb34 := NB720_714.out; have hnc34 := NB714_720.out; have hnb35 := NB720_716.out; have hnc35 := NB716_720.out; have hnb36 := NB720_713.out; have hnc36 := NB713_720.out; have hcz37_0 : w33.cell? ⟨gb720, 0, none⟩ = some (.string (⟨#[]⟩ : ByteArray)) := (blk_cell BK720.out 0).trans rfl; have hcz37_1 : w33.cell? ⟨gb720, 1, none⟩ = some (.int .i64 0) := (blk_cell BK720.out 1).trans rfl; have hfz37_0 := blk_frozen BK720.out 0; have hfz37_1 := blk_frozen BK720.out 1))
                      have n0_ : Aside0 (((w33.setCell ⟨gb720, 0, none⟩ (.string t718)).setCell ⟨gb720, 1, none⟩ (.int .i64 t719)).heap[gb714]? = some (.cells #[.string x715000_2, .int .i64 x715001_2] 69 (0, 0))) := ⟨by (with_reducible repeat (first | refine blk_drewN ?_ _ | refine blk_drew ?_ | refine blk_alloc ?_ _)); refine blk_far ?_ NB714_720.out _; (with_reducible repeat (first | refine blk_drewN ?_ _ | refine blk_drew ?_ | refine blk_alloc ?_ _)); refine blk_far ?_ NB714_720.out _; (with_reducible repeat (first | refine blk_drewN ?_ _ | refine blk_drew ?_ | refine blk_alloc ?_ _)); exact BK714.out⟩
                      have n1_ : Aside0 (((w33.setCell ⟨gb720, 0, none⟩ (.string t718)).setCell ⟨gb720, 1, none⟩ (.int .i64 t719)).heap[gb716]? = some (.cells #[.int .u8 ((rd_T71 l1 x41_2).f0), .int .i64 ((rd_T71 l1 x41_2).f1)] 71 (0, 0))) := ⟨by (with_reducible repeat (first | refine blk_drewN ?_ _ | refine blk_drew ?_ | refine blk_alloc ?_ _)); refine blk_far ?_ NB716_720.out _; (with_reducible repeat (first | refine blk_drewN ?_ _ | refine blk_drew ?_ | refine blk_alloc ?_ _)); refine blk_far ?_ NB716_720.out _; (with_reducible repeat (first | refine blk_drewN ?_ _ | refine blk_drew ?_ | refine blk_alloc ?_ _)); exact BK716.out⟩
                      have n2_ : Aside0 (((w33.setCell ⟨gb720, 0, none⟩ (.string t718)).setCell ⟨gb720, 1, none⟩ (.int .i64 t719)).heap[gb720]? = some (.cells #[.string t718, .int .i64 t719] 69 (0, 0))) := ⟨by (with_reducible repeat (first | refine blk_drewN ?_ _ | refine blk_drew ?_ | refine blk_alloc ?_ _)); refine blk_put (cs := #[.string t718, .int .i64 0]) ?_ 1 _ rfl; (with_reducible repeat (first | refine blk_drewN ?_ _ | refine blk_drew ?_ | refine blk_alloc ?_ _)); refine blk_put (cs := #[.string (⟨#[]⟩ : ByteArray), .int .i64 0]) ?_ 0 _ rfl; (with_reducible repeat (first | refine blk_drewN ?_ _ | refine blk_drew ?_ | refine blk_alloc ?_ _)); exact BK720.out⟩
                      have n3_ : Aside0 (IsS110 w ((w33.setCell ⟨gb720, 0, none⟩ (.string t718)).setCell ⟨gb720, 1, none⟩ (.int .i64 t719)) g713 x714000_2 x714001_2) := ⟨by repeat (first | (with_reducible first | exact HI713.out | apply IsS110.alloc | apply IsS110.drewN | apply IsS110.drew | apply IsS110.set_0 | apply IsS110.set_1 | refine IsS110.far ?_ NB713_714.out _ | refine IsS110.far ?_ NB713_716.out _ | refine IsS110.far ?_ NB713_720.out _) | exact HI713.out)⟩
                      have n4_ : Aside0 (Below w.heap.size w ((w33.setCell ⟨gb720, 0, none⟩ (.string t718)).setCell ⟨gb720, 1, none⟩ (.int .i64 t719))) := ⟨by repeat (first | (with_reducible first | exact HB.out | apply below_alloc | apply pw_below_drewN | apply below_drew1 | refine below_set ?_ (IsS110.ge HI713.out) | refine below_set ?_ GE714.out | refine below_set ?_ GE716.out | refine below_set ?_ GE720.out) | exact HB.out)⟩
                      (try clear BK714)
                      (try clear BK716)
                      (try clear BK720)
                      (try clear HI713)
                      (try clear HB)
                      generalize ((w33.setCell ⟨gb720, 0, none⟩ (.string t718)).setCell ⟨gb720, 1, none⟩ (.int .i64 t719)) = w38 at n0_ n1_ n2_ n3_ n4_ ⊢
                      have BK714 := n0_
                      have BK716 := n1_
                      have BK720 := n2_
                      have HI713 := n3_
                      have HB := n4_
                      clear n0_ n1_ n2_ n3_ n4_
                      have n0_ := Aside0.mk (blk_drew BK714.out)
                      have n1_ := Aside0.mk (blk_drew BK716.out)
                      have n2_ := Aside0.mk (blk_drew BK720.out)
                      have n3_ := Aside0.mk (IsS110.drew HI713.out)
                      have n4_ := Aside0.mk (below_drew1 HB.out)
                      clear BK714
                      clear BK716
                      clear BK720
                      clear HI713
                      clear HB
                      have BK714 := n0_
                      have BK716 := n1_
                      have BK720 := n2_
                      have HI713 := n3_
                      have HB := n4_
                      clear n0_ n1_ n2_ n3_ n4_
                      refine start_ (n := 7) (S := fun w' => w'.cell? ⟨gb720, 0, none⟩ = some (.string t718) ∧ w'.cell? ⟨gb720, 1, none⟩ = some (.int .i64 t719)) (ds := []) #[false, false, false, false, false, false, false] (by kernel_rfl) rfl rfl ⟨(blk_cell BK720.out 0).trans rfl, (blk_cell BK720.out 1).trans rfl⟩ (fun hHeld => ?_)
                      generalize w38.drew = w39 at BK714 BK716 BK720 HI713 HB hHeld ⊢
                      refine pure_ (i := 0) (N := some 55) (v := ?_) (a' := ?_) #[true, false, false, false, false, false, false] rfl rfl (by kernel_rfl) (fun _ _ _ h => h) (Or.inl ⟨by rfl, ?_⟩) ?_ ?_
                      rotate_left
                      · intro w'
                        go_simp
                        with_reducible rfl
                      rotate_left
                      · simp only [Act.put, List.setIfInBounds_toArray, List.set_cons_zero, List.set_cons_succ, i64_w, i32_w]
                        rfl
                      refine pure_ (i := 2) (N := some 57) (v := ?_) (a' := ?_) #[true, false, true, false, false, false, false] rfl rfl (by kernel_rfl) (fun _ _ _ h => h) (Or.inl ⟨by rfl, ?_⟩) ?_ ?_
                      rotate_left
                      · intro w'
                        go_simp
                        with_reducible rfl
                      rotate_left
                      · simp only [Act.put, List.setIfInBounds_toArray, List.set_cons_zero, List.set_cons_succ, i64_w, i32_w]
                        rfl
                      refine take_ (i := 4) (N := some 59) (v := ?_) (a' := ?_) #[true, false, true, false, true, false, false] rfl rfl (by kernel_rfl) (fun _ _ _ h => h) (Or.inl ⟨by rfl, ?_⟩) hHeld ?_ ?_
                      rotate_left
                      · rintro w' ⟨s0, s1⟩
                        go_simp
                        with_reducible rfl
                      rotate_left
                      · simp only [Act.put, List.setIfInBounds_toArray, List.set_cons_zero, List.set_cons_succ, i64_w, i32_w]
                        rfl
                      refine one_ (i := 1) (N := some 56) #[true, true, true, false, true, false, false] rfl rfl (by kernel_rfl) (by decide) (fun K hK => ?_)
                      refine goes_ Try.func71 (by kernel_rfl) rfl #[.pointer (some ⟨g713, 0, none⟩)] (by rfl) rfl rfl (by (try simp only [List.map_toArray, List.map_cons, List.map_nil]); first | done | rfl | (simp only [List.length_drop, List.length_take]; rfl)) ?_
                      with_reducible refine (wire_Reader_Number.calls g713 x714000_2 x714001_2 t721 t722 t723 w _ ?side1 ?side2 A28.out).mono ?_
                      (case side1 => repeat (first | (with_reducible first | exact HI713.out | apply IsS110.alloc | apply IsS110.drewN | apply IsS110.drew | apply IsS110.set_0 | apply IsS110.set_1 | refine IsS110.far ?_ NB713_714.out _ | refine IsS110.far ?_ NB713_716.out _ | refine IsS110.far ?_ NB713_720.out _) | exact HI713.out))
                      (case side2 => repeat (first | (with_reducible first | exact HB.out | apply below_alloc | apply pw_below_drewN | apply below_drew1 | refine below_set ?_ (IsS110.ge HI713.out) | refine below_set ?_ GE714.out | refine below_set ?_ GE716.out | refine below_set ?_ GE720.out) | exact HB.out))
                      rintro e w40 ⟨rfl, hi, hb, hk⟩
                      refine ⟨_, rfl, ?_⟩
                      have n0_ := Aside0.mk (KeepBut.blk hk (g' := gb714) (o := .cells #[.string x715000_2, .int .i64 x715001_2] 69 (0, 0)) (by (with_reducible repeat (first | refine blk_drewN ?_ _ | refine blk_drew ?_ | refine blk_alloc ?_ _)); exact BK714.out) NB714_713.out (by simp))
                      have n1_ := Aside0.mk (KeepBut.blk hk (g' := gb716) (o := .cells #[.int .u8 ((rd_T71 l1 x41_2).f0), .int .i64 ((rd_T71 l1 x41_2).f1)] 71 (0, 0)) (by (with_reducible repeat (first | refine blk_drewN ?_ _ | refine blk_drew ?_ | refine blk_alloc ?_ _)); exact BK716.out) NB716_713.out (by simp))
                      have n2_ := Aside0.mk (KeepBut.blk hk (g' := gb720) (o := .cells #[.string t718, .int .i64 t719] 69 (0, 0)) (by (with_reducible repeat (first | refine blk_drewN ?_ _ | refine blk_drew ?_ | refine blk_alloc ?_ _)); exact BK720.out) NB720_713.out (by simp))
                      have n3_ := Aside0.mk (hb)
                      have n4_ := Aside0.mk (hi)
                      clear BK714
                      clear BK716
                      clear BK720
                      clear HB
                      clear HI713
                      have BK714 := n0_
                      have BK716 := n1_
                      have BK720 := n2_
                      have HB := n3_
                      have HI713 := n4_
                      clear n0_ n1_ n2_ n3_ n4_
                      (try clear hb)
                      (try clear hb2)
                      (try clear hk)
                      (try clear hi)
                      refine hK.out _ _ ⟨(blk_cell BK720.out 0).trans rfl, (blk_cell BK720.out 1).trans rfl⟩ (fun hHeld => ?_)
                      clear hK K
                      refine norm_ (a' := ?_) ?_ ?_
                      rotate_left
                      · show Act.put _ (some 56) _ = _
                        simp only [Act.put, List.setIfInBounds_toArray, List.set_cons_zero, List.set_cons_succ, i64_w, i32_w]
                        rfl
                      refine pure_ (i := 3) (N := some 58) (v := ?_) (a' := ?_) #[true, true, true, true, true, false, false] rfl rfl (by kernel_rfl) (fun _ _ _ h => h) (Or.inl ⟨by rfl, ?_⟩) ?_ ?_
                      rotate_left
                      · intro w'
                        go_simp
                        with_reducible rfl
                      rotate_left
                      · simp only [Act.put, List.setIfInBounds_toArray, List.set_cons_zero, List.set_cons_succ, i64_w, i32_w]
                        rfl
                      refine pure_ (i := 5) (N := some 9) (v := ?_) (a' := ?_) #[true, true, true, true, true, true, false] rfl rfl (by kernel_rfl) (fun _ _ _ h => h) (Or.inl ⟨by rfl, ?_⟩) ?_ ?_
                      rotate_left
                      · intro w'
                        go_simp
                        with_reducible rfl
                      rotate_left
                      · simp only [Act.put, List.setIfInBounds_toArray, List.set_cons_zero, List.set_cons_succ, i64_w, i32_w]
                        rfl
                      refine one_ (i := 6) (N := none) #[true, true, true, true, true, true, true] rfl rfl (by kernel_rfl) (by decide) (fun K hK => ?_)
                      have hs41 : w40.cell? ⟨gb714, 0, none⟩ = some (.string x715000_2) := (blk_cell BK714.out 0).trans rfl
                      have hfs41 := blk_frozen BK714.out 0
                      have hns41_1 := NB716_714.out
                      have hns41_2 := NB720_714.out
                      have hms41_1 := NB714_716.out
                      have hms41_2 := NB714_720.out
                      have hs42 : w40.cell? ⟨gb714, 1, none⟩ = some (.int .i64 x715001_2) := (blk_cell BK714.out 1).trans rfl
                      have hfs42 := blk_frozen BK714.out 1
                      have hns42_1 := NB716_714.out
                      have hns42_2 := NB720_714.out
                      have hms42_1 := NB714_716.out
                      have hms42_2 := NB714_720.out
                      refine skip_ (w1 := ?_) (by rfl) rfl ?_ ?_
                      rotate_left
                      · go_simp
                        rfl
                      refine hK.out _ _ ⟨((cell_far (p := ⟨gb714, _, none⟩) NB720_714.out _).trans (((cell_far (p := ⟨gb714, _, none⟩) NB720_714.out _).trans (hHeld.1)))), ((cell_far (p := ⟨gb714, _, none⟩) NB720_714.out _).trans (((cell_far (p := ⟨gb714, _, none⟩) NB720_714.out _).trans (hHeld.2))))⟩ (fun hHeld => ?_)
                      clear hK K
                      refine done_ (by kernel_rfl) ?_
                      try go_wp2
                      go_meet
                      case rel => exact ⟨_, ((t721 == t717)), (t722), (t723), (t718), (t719), (by first | rfl | (simp; done) | (simp [*]; done)), H', ⟨by have := HJ2.out; have := HK2.out; first | omega | exact Nat.le_refl _⟩, ⟨by (with_reducible repeat (first | refine blk_drewN ?_ _ | refine blk_drew ?_ | refine blk_alloc ?_ _)); refine blk_put (cs := #[.string t718, .int .i64 x715001_2]) ?_ 1 _ rfl; (with_reducible repeat (first | refine blk_drewN ?_ _ | refine blk_drew ?_ | refine blk_alloc ?_ _)); refine blk_put (cs := #[.string x715000_2, .int .i64 x715001_2]) ?_ 0 _ rfl; (with_reducible repeat (first | refine blk_drewN ?_ _ | refine blk_drew ?_ | refine blk_alloc ?_ _)); exact BK714.out⟩, ⟨by (with_reducible repeat (first | refine blk_drewN ?_ _ | refine blk_drew ?_ | refine blk_alloc ?_ _)); refine blk_far ?_ NB716_714.out _; (with_reducible repeat (first | refine blk_drewN ?_ _ | refine blk_drew ?_ | refine blk_alloc ?_ _)); refine blk_far ?_ NB716_714.out _; (with_reducible repeat (first | refine blk_drewN ?_ _ | refine blk_drew ?_ | refine blk_alloc ?_ _)); exact BK716.out⟩, ⟨by repeat (first | (with_reducible first | exact HI713.out | apply IsS110.alloc | apply IsS110.drewN | apply IsS110.drew | apply IsS110.set_0 | apply IsS110.set_1 | refine IsS110.far ?_ NB713_714.out _ | refine IsS110.far ?_ NB713_716.out _ | refine IsS110.far ?_ NB713_720.out _) | exact HI713.out)⟩, ⟨by repeat (first | (with_reducible first | exact HB.out | apply below_alloc | apply pw_below_drewN | apply below_drew1 | refine below_set ?_ (IsS110.ge HI713.out) | refine below_set ?_ GE714.out | refine below_set ?_ GE716.out | refine below_set ?_ GE720.out) | exact HB.out)⟩⟩
                    · rw [if_neg c26] at H
                      have c26b0 : ((Int.tmod ((rd_T71 l1 x41_2).f0) 5) == 0) = false := beq_eq_false_iff_ne.mpr c26
                      have c26b1 : ((Int.tmod ((rd_T71 l1 x41_2).f0) 5) != 0) = true := bne_iff_ne.mpr c26
                      (first | rw [c26b0] | (simp only [i64_w, i32_w]; rw [c26b0]) | skip)
                      by_cases c43 : (Int.tmod ((rd_T71 l1 x41_2).f0) 5) = 1
                      · rw [if_pos c43] at H
                        have c43b0 : ((Int.tmod ((rd_T71 l1 x41_2).f0) 5) == 1) = true := beq_iff_eq.mpr c43
                        have c43b1 : ((Int.tmod ((rd_T71 l1 x41_2).f0) 5) != 1) = false := bne_eq_false_iff_eq.mpr c43
                        clear c43
                        replace H := Option.bind_eq_some_iff.mp H
                        obtain ⟨⟨t724, t725, t726⟩, A440, H⟩ := H
                        replace H : ((wire_Reader_Int.f x714000_2 x714001_2).bind fun bt728 => (dasdlaw01_WireReads.j2 k2 (bt728.1 == t724) l1 (l1.length : Int) x41_2 bt728.2.1 bt728.2.2 t725 t726)) = some r := H
                        have A44 := Aside0.mk A440
                        clear A440
                        replace H := Option.bind_eq_some_iff.mp H
                        obtain ⟨⟨t728, t729, t730⟩, A450, H⟩ := H
                        replace H : (dasdlaw01_WireReads.j2 k2 (t728 == t724) l1 (l1.length : Int) x41_2 t729 t730 t725 t726) = some r := H
                        have A45 := Aside0.mk A450
                        clear A450
                        have H' := Aside0.mk H
                        clear H
                        have hnb46 := NB714_716.out
                        have hnc46 := NB716_714.out
                        have hnb47 := NB714_713.out
                        have hnc47 := NB713_714.out
                        have hcz48_0 : w22.cell? ⟨gb714, 0, none⟩ = some (.string x715000_2) := (blk_cell BK714.out 0).trans rfl
                        have hcz48_1 : w22.cell? ⟨gb714, 1, none⟩ = some (.int .i64 x715001_2) := (blk_cell BK714.out 1).trans rfl
                        have hfz48_0 := blk_frozen BK714.out 0
                        have hfz48_1 := blk_frozen BK714.out 1
                        try go_wp2_with (first | ((with_reducible refine gate_callee (f := 72) rfl ?_); refine goesL_ (some 64) rfl rfl Try.func72 (by kernel_rfl) rfl #[.agg #[.string x715000_2, .int .i64 x715001_2]] rfl (by (try simp only [List.map_toArray, List.map_cons, List.map_nil]); first | done | rfl | (simp only [List.length_drop, List.length_take]; rfl)) ?_; (with_reducible refine (dasdref01_ReadInt.calls k2 x715000_2 x715001_2 t724 t725 t726 _ A44.out).mono ?_); rintro e w49 ⟨rfl, hb⟩; refine ⟨_, rfl, ?_⟩; have n0_ := Aside0.mk (blk_below (g := gb714) (o := .cells #[.string x715000_2, .int .i64 x715001_2] 69 (0, 0)) (by (with_reducible repeat (first | refine blk_drewN ?_ _ | refine blk_drew ?_ | refine blk_alloc ?_ _)); refine blk_far ?_ NB714_716.out _; (with_reducible repeat (first | refine blk_drewN ?_ _ | refine blk_drew ?_ | refine blk_alloc ?_ _)); refine blk_far ?_ NB714_716.out _; (with_reducible repeat (first | refine blk_drewN ?_ _ | refine blk_drew ?_ | refine blk_alloc ?_ _)); exact BK714.out) hb); have n1_ := Aside0.mk (IsS110.below (show IsS110 w ((w22.setCell ⟨gb716, 0, none⟩ (.int .u8 ((rd_T71 l1 x41_2).f0))).setCell ⟨gb716, 1, none⟩ (.int .i64 ((rd_T71 l1 x41_2).f1))) g713 x714000_2 x714001_2 from by repeat (first | (with_reducible first | exact HI713.out | apply IsS110.alloc | apply IsS110.drewN | apply IsS110.drew | apply IsS110.set_0 | apply IsS110.set_1 | refine IsS110.far ?_ NB713_714.out _ | refine IsS110.far ?_ NB713_716.out _) | exact HI713.out)) hb); have n2_ := Aside0.mk (blk_below (g := gb716) (o := .cells #[.int .u8 ((rd_T71 l1 x41_2).f0), .int .i64 ((rd_T71 l1 x41_2).f1)] 71 (0, 0)) (by (with_reducible repeat (first | refine blk_drewN ?_ _ | refine blk_drew ?_ | refine blk_alloc ?_ _)); refine blk_put (cs := #[.int .u8 ((rd_T71 l1 x41_2).f0), .int .i64 0]) ?_ 1 _ rfl; (with_reducible repeat (first | refine blk_drewN ?_ _ | refine blk_drew ?_ | refine blk_alloc ?_ _)); refine blk_put (cs := #[.int .u8 0, .int .i64 0]) ?_ 0 _ rfl; (with_reducible repeat (first | refine blk_drewN ?_ _ | refine blk_drew ?_ | refine blk_alloc ?_ _)); exact BK716.out) hb); have n3_ := Aside0.mk (below_step (by repeat (first | (with_reducible first | exact HB.out | apply below_alloc | apply pw_below_drewN | apply below_drew1 | refine below_set ?_ (IsS110.ge HI713.out) | refine below_set ?_ GE714.out | refine below_set ?_ GE716.out) | exact HB.out)) hb); clear BK714; clear HI713; clear BK716; clear HB; have BK714 := n0_; have HI713 := n1_; have BK716 := n2_; have HB := n3_; clear n0_ n1_ n2_ n3_; (try clear hb); (try clear hb2); (try clear hk); (try clear hi)) | ((with_reducible refine gate_dst (N := 13) rfl ?_); (try (refine gate_guard (by rfl) ?_; dsimp only)); refine box_event ?hg (N := 13) ?hd (cs := #[.string (⟨#[]⟩ : ByteArray), .int .i64 0]) (t := 69) ?hr ?_; (case hd => rfl); (case hg => rfl); (case hr => first | (go_simp; done) | (go_simp; rfl)); intro gb727 hg w50 hbox hb; have n0_ := Aside0.mk (blk_below (g := gb714) (o := .cells #[.string x715000_2, .int .i64 x715001_2] 69 (0, 0)) (by (with_reducible repeat (first | refine blk_drewN ?_ _ | refine blk_drew ?_ | refine blk_alloc ?_ _)); exact BK714.out) hb); have n1_ := Aside0.mk (IsS110.below (by repeat (first | (with_reducible first | exact HI713.out | apply IsS110.alloc | apply IsS110.drewN | apply IsS110.drew | apply IsS110.set_0 | apply IsS110.set_1 | refine IsS110.far ?_ NB713_714.out _ | refine IsS110.far ?_ NB713_716.out _) | exact HI713.out)) hb); have n2_ := Aside0.mk (blk_below (g := gb716) (o := .cells #[.int .u8 ((rd_T71 l1 x41_2).f0), .int .i64 ((rd_T71 l1 x41_2).f1)] 71 (0, 0)) (by (with_reducible repeat (first | refine blk_drewN ?_ _ | refine blk_drew ?_ | refine blk_alloc ?_ _)); exact BK716.out) hb); have n3_ := Aside0.mk (below_step (by repeat (first | (with_reducible first | exact HB.out | apply below_alloc | apply pw_below_drewN | apply below_drew1 | refine below_set ?_ (IsS110.ge HI713.out) | refine below_set ?_ GE714.out | refine below_set ?_ GE716.out) | exact HB.out)) hb); have n4_ := Aside0.mk (hbox); have n5_ := Aside0.mk ((by rw [hg]; exact (below_size (by repeat (first | (with_reducible first | exact HB.out | apply below_alloc | apply pw_below_drewN | apply below_drew1 | refine below_set ?_ (IsS110.ge HI713.out) | refine below_set ?_ GE714.out | refine below_set ?_ GE716.out) | exact HB.out))) : w.heap.size ≤ gb727)); have n6_ := Aside0.mk ((by rw [hg]; exact (below_size (by repeat (first | (with_reducible first | exact HB.out | apply below_alloc | apply pw_below_drewN | apply below_drew1 | refine below_set ?_ (IsS110.ge HI713.out) | refine below_set ?_ GE714.out | refine below_set ?_ GE716.out) | exact HB.out))) : w.heap.size ≤ gb727)); have n7_ := Aside0.mk ((by rw [hg]; exact Nat.ne_of_lt (blk_lt (g := gb714) (o := .cells #[.string x715000_2, .int .i64 x715001_2] 69 (0, 0)) (by (with_reducible repeat (first | refine blk_drewN ?_ _ | refine blk_drew ?_ | refine blk_alloc ?_ _)); exact BK714.out)) : gb714 ≠ gb727)); have n8_ := Aside0.mk ((by rw [hg]; exact Nat.ne_of_gt (blk_lt (g := gb714) (o := .cells #[.string x715000_2, .int .i64 x715001_2] 69 (0, 0)) (by (with_reducible repeat (first | refine blk_drewN ?_ _ | refine blk_drew ?_ | refine blk_alloc ?_ _)); exact BK714.out)) : gb727 ≠ gb714)); have n9_ := Aside0.mk ((by rw [hg]; exact Nat.ne_of_lt (blk_lt (g := gb716) (o := .cells #[.int .u8 ((rd_T71 l1 x41_2).f0), .int .i64 ((rd_T71 l1 x41_2).f1)] 71 (0, 0)) (by (with_reducible repeat (first | refine blk_drewN ?_ _ | refine blk_drew ?_ | refine blk_alloc ?_ _)); exact BK716.out)) : gb716 ≠ gb727)); have n10_ := Aside0.mk ((by rw [hg]; exact Nat.ne_of_gt (blk_lt (g := gb716) (o := .cells #[.int .u8 ((rd_T71 l1 x41_2).f0), .int .i64 ((rd_T71 l1 x41_2).f1)] 71 (0, 0)) (by (with_reducible repeat (first | refine blk_drewN ?_ _ | refine blk_drew ?_ | refine blk_alloc ?_ _)); exact BK716.out)) : gb727 ≠ gb716)); have n11_ := Aside0.mk ((by rw [hg]; exact Nat.ne_of_lt (IsS110.lt (show IsS110 w _ g713 x714000_2 x714001_2 from by repeat (first | (with_reducible first | exact HI713.out | apply IsS110.alloc | apply IsS110.drewN | apply IsS110.drew | apply IsS110.set_0 | apply IsS110.set_1 | refine IsS110.far ?_ NB713_714.out _ | refine IsS110.far ?_ NB713_716.out _) | exact HI713.out))) : g713 ≠ gb727)); have n12_ := Aside0.mk ((by rw [hg]; exact Nat.ne_of_gt (IsS110.lt (show IsS110 w _ g713 x714000_2 x714001_2 from by repeat (first | (with_reducible first | exact HI713.out | apply IsS110.alloc | apply IsS110.drewN | apply IsS110.drew | apply IsS110.set_0 | apply IsS110.set_1 | refine IsS110.far ?_ NB713_714.out _ | refine IsS110.far ?_ NB713_716.out _) | exact HI713.out))) : gb727 ≠ g713)); clear BK714; clear HI713; clear BK716; clear HB; have BK714 := n0_; have HI713 := n1_; have BK716 := n2_; have HB := n3_; have BK727 := n4_; have GW727 := n5_; have GE727 := n6_; have NB714_727 := n7_; have NB727_714 := n8_; have NB716_727 := n9_; have NB727_716 := n10_; have NB713_727 := n11_; have NB727_713 := n12_; clear n0_ n1_ n2_ n3_ n4_ n5_ n6_ n7_ n8_ n9_ n10_ n11_ n12_; clear hb hbox hg; have hnb51 := NB727_714.out; have hnc51 := NB714_727.out; have hnb52 := NB727_716.out; have hnc52 := NB716_727.out; have hnb53 := NB727_713.out; have hnc53 := NB713_727.out; have hcz54_0 : w50.cell? ⟨gb727, 0, none⟩ = some (.string (⟨#[]⟩ : ByteArray)) := (blk_cell BK727.out 0).trans rfl; have hcz54_1 : w50.cell? ⟨gb727, 1, none⟩ = some (.int .i64 0) := (blk_cell BK727.out 1).trans rfl; have hfz54_0 := blk_frozen BK727.out 0; have hfz54_1 := blk_frozen BK727.out 1))
                        have n0_ : Aside0 (((w50.setCell ⟨gb727, 0, none⟩ (.string t725)).setCell ⟨gb727, 1, none⟩ (.int .i64 t726)).heap[gb714]? = some (.cells #[.string x715000_2, .int .i64 x715001_2] 69 (0, 0))) := ⟨by (with_reducible repeat (first | refine blk_drewN ?_ _ | refine blk_drew ?_ | refine blk_alloc ?_ _)); refine blk_far ?_ NB714_727.out _; (with_reducible repeat (first | refine blk_drewN ?_ _ | refine blk_drew ?_ | refine blk_alloc ?_ _)); refine blk_far ?_ NB714_727.out _; (with_reducible repeat (first | refine blk_drewN ?_ _ | refine blk_drew ?_ | refine blk_alloc ?_ _)); exact BK714.out⟩
                        have n1_ : Aside0 (((w50.setCell ⟨gb727, 0, none⟩ (.string t725)).setCell ⟨gb727, 1, none⟩ (.int .i64 t726)).heap[gb716]? = some (.cells #[.int .u8 ((rd_T71 l1 x41_2).f0), .int .i64 ((rd_T71 l1 x41_2).f1)] 71 (0, 0))) := ⟨by (with_reducible repeat (first | refine blk_drewN ?_ _ | refine blk_drew ?_ | refine blk_alloc ?_ _)); refine blk_far ?_ NB716_727.out _; (with_reducible repeat (first | refine blk_drewN ?_ _ | refine blk_drew ?_ | refine blk_alloc ?_ _)); refine blk_far ?_ NB716_727.out _; (with_reducible repeat (first | refine blk_drewN ?_ _ | refine blk_drew ?_ | refine blk_alloc ?_ _)); exact BK716.out⟩
                        have n2_ : Aside0 (((w50.setCell ⟨gb727, 0, none⟩ (.string t725)).setCell ⟨gb727, 1, none⟩ (.int .i64 t726)).heap[gb727]? = some (.cells #[.string t725, .int .i64 t726] 69 (0, 0))) := ⟨by (with_reducible repeat (first | refine blk_drewN ?_ _ | refine blk_drew ?_ | refine blk_alloc ?_ _)); refine blk_put (cs := #[.string t725, .int .i64 0]) ?_ 1 _ rfl; (with_reducible repeat (first | refine blk_drewN ?_ _ | refine blk_drew ?_ | refine blk_alloc ?_ _)); refine blk_put (cs := #[.string (⟨#[]⟩ : ByteArray), .int .i64 0]) ?_ 0 _ rfl; (with_reducible repeat (first | refine blk_drewN ?_ _ | refine blk_drew ?_ | refine blk_alloc ?_ _)); exact BK727.out⟩
                        have n3_ : Aside0 (IsS110 w ((w50.setCell ⟨gb727, 0, none⟩ (.string t725)).setCell ⟨gb727, 1, none⟩ (.int .i64 t726)) g713 x714000_2 x714001_2) := ⟨by repeat (first | (with_reducible first | exact HI713.out | apply IsS110.alloc | apply IsS110.drewN | apply IsS110.drew | apply IsS110.set_0 | apply IsS110.set_1 | refine IsS110.far ?_ NB713_714.out _ | refine IsS110.far ?_ NB713_716.out _ | refine IsS110.far ?_ NB713_727.out _) | exact HI713.out)⟩
                        have n4_ : Aside0 (Below w.heap.size w ((w50.setCell ⟨gb727, 0, none⟩ (.string t725)).setCell ⟨gb727, 1, none⟩ (.int .i64 t726))) := ⟨by repeat (first | (with_reducible first | exact HB.out | apply below_alloc | apply pw_below_drewN | apply below_drew1 | refine below_set ?_ (IsS110.ge HI713.out) | refine below_set ?_ GE714.out | refine below_set ?_ GE716.out | refine below_set ?_ GE727.out) | exact HB.out)⟩
                        (try clear BK714)
                        (try clear BK716)
                        (try clear BK727)
                        (try clear HI713)
                        (try clear HB)
                        generalize ((w50.setCell ⟨gb727, 0, none⟩ (.string t725)).setCell ⟨gb727, 1, none⟩ (.int .i64 t726)) = w55 at n0_ n1_ n2_ n3_ n4_ ⊢
                        have BK714 := n0_
                        have BK716 := n1_
                        have BK727 := n2_
                        have HI713 := n3_
                        have HB := n4_
                        clear n0_ n1_ n2_ n3_ n4_
                        have n0_ := Aside0.mk (blk_drew BK714.out)
                        have n1_ := Aside0.mk (blk_drew BK716.out)
                        have n2_ := Aside0.mk (blk_drew BK727.out)
                        have n3_ := Aside0.mk (IsS110.drew HI713.out)
                        have n4_ := Aside0.mk (below_drew1 HB.out)
                        clear BK714
                        clear BK716
                        clear BK727
                        clear HI713
                        clear HB
                        have BK714 := n0_
                        have BK716 := n1_
                        have BK727 := n2_
                        have HI713 := n3_
                        have HB := n4_
                        clear n0_ n1_ n2_ n3_ n4_
                        refine start_ (n := 7) (S := fun w' => w'.cell? ⟨gb727, 0, none⟩ = some (.string t725) ∧ w'.cell? ⟨gb727, 1, none⟩ = some (.int .i64 t726)) (ds := []) #[false, false, false, false, false, false, false] (by kernel_rfl) rfl rfl ⟨(blk_cell BK727.out 0).trans rfl, (blk_cell BK727.out 1).trans rfl⟩ (fun hHeld => ?_)
                        generalize w55.drew = w56 at BK714 BK716 BK727 HI713 HB hHeld ⊢
                        refine pure_ (i := 0) (N := some 67) (v := ?_) (a' := ?_) #[true, false, false, false, false, false, false] rfl rfl (by kernel_rfl) (fun _ _ _ h => h) (Or.inl ⟨by rfl, ?_⟩) ?_ ?_
                        rotate_left
                        · intro w'
                          go_simp
                          with_reducible rfl
                        rotate_left
                        · simp only [Act.put, List.setIfInBounds_toArray, List.set_cons_zero, List.set_cons_succ, i64_w, i32_w]
                          rfl
                        refine pure_ (i := 2) (N := some 69) (v := ?_) (a' := ?_) #[true, false, true, false, false, false, false] rfl rfl (by kernel_rfl) (fun _ _ _ h => h) (Or.inl ⟨by rfl, ?_⟩) ?_ ?_
                        rotate_left
                        · intro w'
                          go_simp
                          with_reducible rfl
                        rotate_left
                        · simp only [Act.put, List.setIfInBounds_toArray, List.set_cons_zero, List.set_cons_succ, i64_w, i32_w]
                          rfl
                        refine take_ (i := 4) (N := some 71) (v := ?_) (a' := ?_) #[true, false, true, false, true, false, false] rfl rfl (by kernel_rfl) (fun _ _ _ h => h) (Or.inl ⟨by rfl, ?_⟩) hHeld ?_ ?_
                        rotate_left
                        · rintro w' ⟨s0, s1⟩
                          go_simp
                          with_reducible rfl
                        rotate_left
                        · simp only [Act.put, List.setIfInBounds_toArray, List.set_cons_zero, List.set_cons_succ, i64_w, i32_w]
                          rfl
                        refine one_ (i := 1) (N := some 68) #[true, true, true, false, true, false, false] rfl rfl (by kernel_rfl) (by decide) (fun K hK => ?_)
                        refine goes_ Try.func73 (by kernel_rfl) rfl #[.pointer (some ⟨g713, 0, none⟩)] (by rfl) rfl rfl (by (try simp only [List.map_toArray, List.map_cons, List.map_nil]); first | done | rfl | (simp only [List.length_drop, List.length_take]; rfl)) ?_
                        with_reducible refine (wire_Reader_Int.calls g713 x714000_2 x714001_2 t728 t729 t730 w _ ?side1 ?side2 A45.out).mono ?_
                        (case side1 => repeat (first | (with_reducible first | exact HI713.out | apply IsS110.alloc | apply IsS110.drewN | apply IsS110.drew | apply IsS110.set_0 | apply IsS110.set_1 | refine IsS110.far ?_ NB713_714.out _ | refine IsS110.far ?_ NB713_716.out _ | refine IsS110.far ?_ NB713_727.out _) | exact HI713.out))
                        (case side2 => repeat (first | (with_reducible first | exact HB.out | apply below_alloc | apply pw_below_drewN | apply below_drew1 | refine below_set ?_ (IsS110.ge HI713.out) | refine below_set ?_ GE714.out | refine below_set ?_ GE716.out | refine below_set ?_ GE727.out) | exact HB.out))
                        rintro e w57 ⟨rfl, hi, hb, hk⟩
                        refine ⟨_, rfl, ?_⟩
                        have n0_ := Aside0.mk (KeepBut.blk hk (g' := gb714) (o := .cells #[.string x715000_2, .int .i64 x715001_2] 69 (0, 0)) (by (with_reducible repeat (first | refine blk_drewN ?_ _ | refine blk_drew ?_ | refine blk_alloc ?_ _)); exact BK714.out) NB714_713.out (by simp))
                        have n1_ := Aside0.mk (KeepBut.blk hk (g' := gb716) (o := .cells #[.int .u8 ((rd_T71 l1 x41_2).f0), .int .i64 ((rd_T71 l1 x41_2).f1)] 71 (0, 0)) (by (with_reducible repeat (first | refine blk_drewN ?_ _ | refine blk_drew ?_ | refine blk_alloc ?_ _)); exact BK716.out) NB716_713.out (by simp))
                        have n2_ := Aside0.mk (KeepBut.blk hk (g' := gb727) (o := .cells #[.string t725, .int .i64 t726] 69 (0, 0)) (by (with_reducible repeat (first | refine blk_drewN ?_ _ | refine blk_drew ?_ | refine blk_alloc ?_ _)); exact BK727.out) NB727_713.out (by simp))
                        have n3_ := Aside0.mk (hb)
                        have n4_ := Aside0.mk (hi)
                        clear BK714
                        clear BK716
                        clear BK727
                        clear HB
                        clear HI713
                        have BK714 := n0_
                        have BK716 := n1_
                        have BK727 := n2_
                        have HB := n3_
                        have HI713 := n4_
                        clear n0_ n1_ n2_ n3_ n4_
                        (try clear hb)
                        (try clear hb2)
                        (try clear hk)
                        (try clear hi)
                        refine hK.out _ _ ⟨(blk_cell BK727.out 0).trans rfl, (blk_cell BK727.out 1).trans rfl⟩ (fun hHeld => ?_)
                        clear hK K
                        refine norm_ (a' := ?_) ?_ ?_
                        rotate_left
                        · show Act.put _ (some 68) _ = _
                          simp only [Act.put, List.setIfInBounds_toArray, List.set_cons_zero, List.set_cons_succ, i64_w, i32_w]
                          rfl
                        refine pure_ (i := 3) (N := some 70) (v := ?_) (a' := ?_) #[true, true, true, true, true, false, false] rfl rfl (by kernel_rfl) (fun _ _ _ h => h) (Or.inl ⟨by rfl, ?_⟩) ?_ ?_
                        rotate_left
                        · intro w'
                          go_simp
                          with_reducible rfl
                        rotate_left
                        · simp only [Act.put, List.setIfInBounds_toArray, List.set_cons_zero, List.set_cons_succ, i64_w, i32_w]
                          rfl
                        refine pure_ (i := 5) (N := some 9) (v := ?_) (a' := ?_) #[true, true, true, true, true, true, false] rfl rfl (by kernel_rfl) (fun _ _ _ h => h) (Or.inl ⟨by rfl, ?_⟩) ?_ ?_
                        rotate_left
                        · intro w'
                          go_simp
                          with_reducible rfl
                        rotate_left
                        · simp only [Act.put, List.setIfInBounds_toArray, List.set_cons_zero, List.set_cons_succ, i64_w, i32_w]
                          rfl
                        refine one_ (i := 6) (N := none) #[true, true, true, true, true, true, true] rfl rfl (by kernel_rfl) (by decide) (fun K hK => ?_)
                        have hs58 : w57.cell? ⟨gb714, 0, none⟩ = some (.string x715000_2) := (blk_cell BK714.out 0).trans rfl
                        have hfs58 := blk_frozen BK714.out 0
                        have hns58_1 := NB716_714.out
                        have hns58_2 := NB727_714.out
                        have hms58_1 := NB714_716.out
                        have hms58_2 := NB714_727.out
                        have hs59 : w57.cell? ⟨gb714, 1, none⟩ = some (.int .i64 x715001_2) := (blk_cell BK714.out 1).trans rfl
                        have hfs59 := blk_frozen BK714.out 1
                        have hns59_1 := NB716_714.out
                        have hns59_2 := NB727_714.out
                        have hms59_1 := NB714_716.out
                        have hms59_2 := NB714_727.out
                        refine skip_ (w1 := ?_) (by rfl) rfl ?_ ?_
                        rotate_left
                        · go_simp
                          rfl
                        refine hK.out _ _ ⟨((cell_far (p := ⟨gb714, _, none⟩) NB727_714.out _).trans (((cell_far (p := ⟨gb714, _, none⟩) NB727_714.out _).trans (hHeld.1)))), ((cell_far (p := ⟨gb714, _, none⟩) NB727_714.out _).trans (((cell_far (p := ⟨gb714, _, none⟩) NB727_714.out _).trans (hHeld.2))))⟩ (fun hHeld => ?_)
                        clear hK K
                        refine done_ (by kernel_rfl) ?_
                        try go_wp2
                        go_meet
                        case rel => exact ⟨_, ((t728 == t724)), (t729), (t730), (t725), (t726), (by first | rfl | (simp; done) | (simp [*]; done)), H', ⟨by have := HJ2.out; have := HK2.out; first | omega | exact Nat.le_refl _⟩, ⟨by (with_reducible repeat (first | refine blk_drewN ?_ _ | refine blk_drew ?_ | refine blk_alloc ?_ _)); refine blk_put (cs := #[.string t725, .int .i64 x715001_2]) ?_ 1 _ rfl; (with_reducible repeat (first | refine blk_drewN ?_ _ | refine blk_drew ?_ | refine blk_alloc ?_ _)); refine blk_put (cs := #[.string x715000_2, .int .i64 x715001_2]) ?_ 0 _ rfl; (with_reducible repeat (first | refine blk_drewN ?_ _ | refine blk_drew ?_ | refine blk_alloc ?_ _)); exact BK714.out⟩, ⟨by (with_reducible repeat (first | refine blk_drewN ?_ _ | refine blk_drew ?_ | refine blk_alloc ?_ _)); refine blk_far ?_ NB716_714.out _; (with_reducible repeat (first | refine blk_drewN ?_ _ | refine blk_drew ?_ | refine blk_alloc ?_ _)); refine blk_far ?_ NB716_714.out _; (with_reducible repeat (first | refine blk_drewN ?_ _ | refine blk_drew ?_ | refine blk_alloc ?_ _)); exact BK716.out⟩, ⟨by repeat (first | (with_reducible first | exact HI713.out | apply IsS110.alloc | apply IsS110.drewN | apply IsS110.drew | apply IsS110.set_0 | apply IsS110.set_1 | refine IsS110.far ?_ NB713_714.out _ | refine IsS110.far ?_ NB713_716.out _ | refine IsS110.far ?_ NB713_727.out _) | exact HI713.out)⟩, ⟨by repeat (first | (with_reducible first | exact HB.out | apply below_alloc | apply pw_below_drewN | apply below_drew1 | refine below_set ?_ (IsS110.ge HI713.out) | refine below_set ?_ GE714.out | refine below_set ?_ GE716.out | refine below_set ?_ GE727.out) | exact HB.out)⟩⟩
                      · rw [if_neg c43] at H
                        have c43b0 : ((Int.tmod ((rd_T71 l1 x41_2).f0) 5) == 1) = false := beq_eq_false_iff_ne.mpr c43
                        have c43b1 : ((Int.tmod ((rd_T71 l1 x41_2).f0) 5) != 1) = true := bne_iff_ne.mpr c43
                        by_cases c60 : (Int.tmod ((rd_T71 l1 x41_2).f0) 5) = 2
                        · rw [if_pos c60] at H
                          have c60b0 : ((Int.tmod ((rd_T71 l1 x41_2).f0) 5) == 2) = true := beq_iff_eq.mpr c60
                          have c60b1 : ((Int.tmod ((rd_T71 l1 x41_2).f0) 5) != 2) = false := bne_eq_false_iff_eq.mpr c60
                          clear c60
                          replace H := Option.bind_eq_some_iff.mp H
                          obtain ⟨⟨t731, t732, t733⟩, A610, H⟩ := H
                          replace H : ((wire_Reader_Bool.f x714000_2 x714001_2).bind fun bt735 => (dasdlaw01_WireReads.j2 k2 (bt735.1 == t731) l1 (l1.length : Int) x41_2 bt735.2.1 bt735.2.2 t732 t733)) = some r := H
                          have A61 := Aside0.mk A610
                          clear A610
                          replace H := Option.bind_eq_some_iff.mp H
                          obtain ⟨⟨t735, t736, t737⟩, A620, H⟩ := H
                          replace H : (dasdlaw01_WireReads.j2 k2 (t735 == t731) l1 (l1.length : Int) x41_2 t736 t737 t732 t733) = some r := H
                          have A62 := Aside0.mk A620
                          clear A620
                          have H' := Aside0.mk H
                          clear H
                          have hnb63 := NB714_716.out
                          have hnc63 := NB716_714.out
                          have hnb64 := NB714_713.out
                          have hnc64 := NB713_714.out
                          have hcz65_0 : w22.cell? ⟨gb714, 0, none⟩ = some (.string x715000_2) := (blk_cell BK714.out 0).trans rfl
                          have hcz65_1 : w22.cell? ⟨gb714, 1, none⟩ = some (.int .i64 x715001_2) := (blk_cell BK714.out 1).trans rfl
                          have hfz65_0 := blk_frozen BK714.out 0
                          have hfz65_1 := blk_frozen BK714.out 1
                          try go_wp2_with (first | ((with_reducible refine gate_callee (f := 74) rfl ?_); refine goesL_ (some 76) rfl rfl Try.func74 (by kernel_rfl) rfl #[.agg #[.string x715000_2, .int .i64 x715001_2]] rfl (by (try simp only [List.map_toArray, List.map_cons, List.map_nil]); first | done | rfl | (simp only [List.length_drop, List.length_take]; rfl)) ?_; (with_reducible refine (dasdref01_ReadBool.calls x715000_2 x715001_2 t731 t732 t733 _ A61.out).mono ?_); rintro e w66 ⟨rfl, hb⟩; refine ⟨_, rfl, ?_⟩; have n0_ := Aside0.mk (blk_below (g := gb714) (o := .cells #[.string x715000_2, .int .i64 x715001_2] 69 (0, 0)) (by (with_reducible repeat (first | refine blk_drewN ?_ _ | refine blk_drew ?_ | refine blk_alloc ?_ _)); refine blk_far ?_ NB714_716.out _; (with_reducible repeat (first | refine blk_drewN ?_ _ | refine blk_drew ?_ | refine blk_alloc ?_ _)); refine blk_far ?_ NB714_716.out _; (with_reducible repeat (first | refine blk_drewN ?_ _ | refine blk_drew ?_ | refine blk_alloc ?_ _)); exact BK714.out) hb); have n1_ := Aside0.mk (IsS110.below (show IsS110 w ((w22.setCell ⟨gb716, 0, none⟩ (.int .u8 ((rd_T71 l1 x41_2).f0))).setCell ⟨gb716, 1, none⟩ (.int .i64 ((rd_T71 l1 x41_2).f1))) g713 x714000_2 x714001_2 from by repeat (first | (with_reducible first | exact HI713.out | apply IsS110.alloc | apply IsS110.drewN | apply IsS110.drew | apply IsS110.set_0 | apply IsS110.set_1 | refine IsS110.far ?_ NB713_714.out _ | refine IsS110.far ?_ NB713_716.out _) | exact HI713.out)) hb); have n2_ := Aside0.mk (blk_below (g := gb716) (o := .cells #[.int .u8 ((rd_T71 l1 x41_2).f0), .int .i64 ((rd_T71 l1 x41_2).f1)] 71 (0, 0)) (by (with_reducible repeat (first | refine blk_drewN ?_ _ | refine blk_drew ?_ | refine blk_alloc ?_ _)); refine blk_put (cs := #[.int .u8 ((rd_T71 l1 x41_2).f0), .int .i64 0]) ?_ 1 _ rfl; (with_reducible repeat (first | refine blk_drewN ?_ _ | refine blk_drew ?_ | refine blk_alloc ?_ _)); refine blk_put (cs := #[.int .u8 0, .int .i64 0]) ?_ 0 _ rfl; (with_reducible repeat (first | refine blk_drewN ?_ _ | refine blk_drew ?_ | refine blk_alloc ?_ _)); exact BK716.out) hb); have n3_ := Aside0.mk (below_step (by repeat (first | (with_reducible first | exact HB.out | apply below_alloc | apply pw_below_drewN | apply below_drew1 | refine below_set ?_ (IsS110.ge HI713.out) | refine below_set ?_ GE714.out | refine below_set ?_ GE716.out) | exact HB.out)) hb); clear BK714; clear HI713; clear BK716; clear HB; have BK714 := n0_; have HI713 := n1_; have BK716 := n2_; have HB := n3_; clear n0_ n1_ n2_ n3_; (try clear hb); (try clear hb2); (try clear hk); (try clear hi)) | ((with_reducible refine gate_dst (N := 15) rfl ?_); (try (refine gate_guard (by rfl) ?_; dsimp only)); refine box_event ?hg (N := 15) ?hd (cs := #[.string (⟨#[]⟩ : ByteArray), .int .i64 0]) (t := 69) ?hr ?_; (case hd => rfl); (case hg => rfl); (case hr => first | (go_simp; done) | (go_simp; rfl)); intro gb734 hg w67 hbox hb; have n0_ := Aside0.mk (blk_below (g := gb714) (o := .cells #[.string x715000_2, .int .i64 x715001_2] 69 (0, 0)) (by (with_reducible repeat (first | refine blk_drewN ?_ _ | refine blk_drew ?_ | refine blk_alloc ?_ _)); exact BK714.out) hb); have n1_ := Aside0.mk (IsS110.below (by repeat (first | (with_reducible first | exact HI713.out | apply IsS110.alloc | apply IsS110.drewN | apply IsS110.drew | apply IsS110.set_0 | apply IsS110.set_1 | refine IsS110.far ?_ NB713_714.out _ | refine IsS110.far ?_ NB713_716.out _) | exact HI713.out)) hb); have n2_ := Aside0.mk (blk_below (g := gb716) (o := .cells #[.int .u8 ((rd_T71 l1 x41_2).f0), .int .i64 ((rd_T71 l1 x41_2).f1)] 71 (0, 0)) (by (with_reducible repeat (first | refine blk_drewN ?_ _ | refine blk_drew ?_ | refine blk_alloc ?_ _)); exact BK716.out) hb); have n3_ := Aside0.mk (below_step (by repeat (first | (with_reducible first | exact HB.out | apply below_alloc | apply pw_below_drewN | apply below_drew1 | refine below_set ?_ (IsS110.ge HI713.out) | refine below_set ?_ GE714.out | refine below_set ?_ GE716.out) | exact HB.out)) hb); have n4_ := Aside0.mk (hbox); have n5_ := Aside0.mk ((by rw [hg]; exact (below_size (by repeat (first | (with_reducible first | exact HB.out | apply below_alloc | apply pw_below_drewN | apply below_drew1 | refine below_set ?_ (IsS110.ge HI713.out) | refine below_set ?_ GE714.out | refine below_set ?_ GE716.out) | exact HB.out))) : w.heap.size ≤ gb734)); have n6_ := Aside0.mk ((by rw [hg]; exact (below_size (by repeat (first | (with_reducible first | exact HB.out | apply below_alloc | apply pw_below_drewN | apply below_drew1 | refine below_set ?_ (IsS110.ge HI713.out) | refine below_set ?_ GE714.out | refine below_set ?_ GE716.out) | exact HB.out))) : w.heap.size ≤ gb734)); have n7_ := Aside0.mk ((by rw [hg]; exact Nat.ne_of_lt (blk_lt (g := gb714) (o := .cells #[.string x715000_2, .int .i64 x715001_2] 69 (0, 0)) (by (with_reducible repeat (first | refine blk_drewN ?_ _ | refine blk_drew ?_ | refine blk_alloc ?_ _)); exact BK714.out)) : gb714 ≠ gb734)); have n8_ := Aside0.mk ((by rw [hg]; exact Nat.ne_of_gt (blk_lt (g := gb714) (o := .cells #[.string x715000_2, .int .i64 x715001_2] 69 (0, 0)) (by (with_reducible repeat (first | refine blk_drewN ?_ _ | refine blk_drew ?_ | refine blk_alloc ?_ _)); exact BK714.out)) : gb734 ≠ gb714)); have n9_ := Aside0.mk ((by rw [hg]; exact Nat.ne_of_lt (blk_lt (g := gb716) (o := .cells #[.int .u8 ((rd_T71 l1 x41_2).f0), .int .i64 ((rd_T71 l1 x41_2).f1)] 71 (0, 0)) (by (with_reducible repeat (first | refine blk_drewN ?_ _ | refine blk_drew ?_ | refine blk_alloc ?_ _)); exact BK716.out)) : gb716 ≠ gb734)); have n10_ := Aside0.mk ((by rw [hg]; exact Nat.ne_of_gt (blk_lt (g := gb716) (o := .cells #[.int .u8 ((rd_T71 l1 x41_2).f0), .int .i64 ((rd_T71 l1 x41_2).f1)] 71 (0, 0)) (by (with_reducible repeat (first | refine blk_drewN ?_ _ | refine blk_drew ?_ | refine blk_alloc ?_ _)); exact BK716.out)) : gb734 ≠ gb716)); have n11_ := Aside0.mk ((by rw [hg]; exact Nat.ne_of_lt (IsS110.lt (show IsS110 w _ g713 x714000_2 x714001_2 from by repeat (first | (with_reducible first | exact HI713.out | apply IsS110.alloc | apply IsS110.drewN | apply IsS110.drew | apply IsS110.set_0 | apply IsS110.set_1 | refine IsS110.far ?_ NB713_714.out _ | refine IsS110.far ?_ NB713_716.out _) | exact HI713.out))) : g713 ≠ gb734)); have n12_ := Aside0.mk ((by rw [hg]; exact Nat.ne_of_gt (IsS110.lt (show IsS110 w _ g713 x714000_2 x714001_2 from by repeat (first | (with_reducible first | exact HI713.out | apply IsS110.alloc | apply IsS110.drewN | apply IsS110.drew | apply IsS110.set_0 | apply IsS110.set_1 | refine IsS110.far ?_ NB713_714.out _ | refine IsS110.far ?_ NB713_716.out _) | exact HI713.out))) : gb734 ≠ g713)); clear BK714; clear HI713; clear BK716; clear HB; have BK714 := n0_; have HI713 := n1_; have BK716 := n2_; have HB := n3_; have BK734 := n4_; have GW734 := n5_; have GE734 := n6_; have NB714_734 := n7_; have NB734_714 := n8_; have NB716_734 := n9_; have NB734_716 := n10_; have NB713_734 := n11_; have NB734_713 := n12_; clear n0_ n1_ n2_ n3_ n4_ n5_ n6_ n7_ n8_ n9_ n10_ n11_ n12_; clear hb hbox hg; have hnb68 := NB734_714.out; have hnc68 := NB714_734.out; have hnb69 := NB734_716.out; have hnc69 := NB716_734.out; have hnb70 := NB734_713.out; have hnc70 := NB713_734.out; have hcz71_0 : w67.cell? ⟨gb734, 0, none⟩ = some (.string (⟨#[]⟩ : ByteArray)) := (blk_cell BK734.out 0).trans rfl; have hcz71_1 : w67.cell? ⟨gb734, 1, none⟩ = some (.int .i64 0) := (blk_cell BK734.out 1).trans rfl; have hfz71_0 := blk_frozen BK734.out 0; have hfz71_1 := blk_frozen BK734.out 1))
                          have n0_ : Aside0 (((w67.setCell ⟨gb734, 0, none⟩ (.string t732)).setCell ⟨gb734, 1, none⟩ (.int .i64 t733)).heap[gb714]? = some (.cells #[.string x715000_2, .int .i64 x715001_2] 69 (0, 0))) := ⟨by (with_reducible repeat (first | refine blk_drewN ?_ _ | refine blk_drew ?_ | refine blk_alloc ?_ _)); refine blk_far ?_ NB714_734.out _; (with_reducible repeat (first | refine blk_drewN ?_ _ | refine blk_drew ?_ | refine blk_alloc ?_ _)); refine blk_far ?_ NB714_734.out _; (with_reducible repeat (first | refine blk_drewN ?_ _ | refine blk_drew ?_ | refine blk_alloc ?_ _)); exact BK714.out⟩
                          have n1_ : Aside0 (((w67.setCell ⟨gb734, 0, none⟩ (.string t732)).setCell ⟨gb734, 1, none⟩ (.int .i64 t733)).heap[gb716]? = some (.cells #[.int .u8 ((rd_T71 l1 x41_2).f0), .int .i64 ((rd_T71 l1 x41_2).f1)] 71 (0, 0))) := ⟨by (with_reducible repeat (first | refine blk_drewN ?_ _ | refine blk_drew ?_ | refine blk_alloc ?_ _)); refine blk_far ?_ NB716_734.out _; (with_reducible repeat (first | refine blk_drewN ?_ _ | refine blk_drew ?_ | refine blk_alloc ?_ _)); refine blk_far ?_ NB716_734.out _; (with_reducible repeat (first | refine blk_drewN ?_ _ | refine blk_drew ?_ | refine blk_alloc ?_ _)); exact BK716.out⟩
                          have n2_ : Aside0 (((w67.setCell ⟨gb734, 0, none⟩ (.string t732)).setCell ⟨gb734, 1, none⟩ (.int .i64 t733)).heap[gb734]? = some (.cells #[.string t732, .int .i64 t733] 69 (0, 0))) := ⟨by (with_reducible repeat (first | refine blk_drewN ?_ _ | refine blk_drew ?_ | refine blk_alloc ?_ _)); refine blk_put (cs := #[.string t732, .int .i64 0]) ?_ 1 _ rfl; (with_reducible repeat (first | refine blk_drewN ?_ _ | refine blk_drew ?_ | refine blk_alloc ?_ _)); refine blk_put (cs := #[.string (⟨#[]⟩ : ByteArray), .int .i64 0]) ?_ 0 _ rfl; (with_reducible repeat (first | refine blk_drewN ?_ _ | refine blk_drew ?_ | refine blk_alloc ?_ _)); exact BK734.out⟩
                          have n3_ : Aside0 (IsS110 w ((w67.setCell ⟨gb734, 0, none⟩ (.string t732)).setCell ⟨gb734, 1, none⟩ (.int .i64 t733)) g713 x714000_2 x714001_2) := ⟨by repeat (first | (with_reducible first | exact HI713.out | apply IsS110.alloc | apply IsS110.drewN | apply IsS110.drew | apply IsS110.set_0 | apply IsS110.set_1 | refine IsS110.far ?_ NB713_714.out _ | refine IsS110.far ?_ NB713_716.out _ | refine IsS110.far ?_ NB713_734.out _) | exact HI713.out)⟩
                          have n4_ : Aside0 (Below w.heap.size w ((w67.setCell ⟨gb734, 0, none⟩ (.string t732)).setCell ⟨gb734, 1, none⟩ (.int .i64 t733))) := ⟨by repeat (first | (with_reducible first | exact HB.out | apply below_alloc | apply pw_below_drewN | apply below_drew1 | refine below_set ?_ (IsS110.ge HI713.out) | refine below_set ?_ GE714.out | refine below_set ?_ GE716.out | refine below_set ?_ GE734.out) | exact HB.out)⟩
                          (try clear BK714)
                          (try clear BK716)
                          (try clear BK734)
                          (try clear HI713)
                          (try clear HB)
                          generalize ((w67.setCell ⟨gb734, 0, none⟩ (.string t732)).setCell ⟨gb734, 1, none⟩ (.int .i64 t733)) = w72 at n0_ n1_ n2_ n3_ n4_ ⊢
                          have BK714 := n0_
                          have BK716 := n1_
                          have BK734 := n2_
                          have HI713 := n3_
                          have HB := n4_
                          clear n0_ n1_ n2_ n3_ n4_
                          have n0_ := Aside0.mk (blk_drew BK714.out)
                          have n1_ := Aside0.mk (blk_drew BK716.out)
                          have n2_ := Aside0.mk (blk_drew BK734.out)
                          have n3_ := Aside0.mk (IsS110.drew HI713.out)
                          have n4_ := Aside0.mk (below_drew1 HB.out)
                          clear BK714
                          clear BK716
                          clear BK734
                          clear HI713
                          clear HB
                          have BK714 := n0_
                          have BK716 := n1_
                          have BK734 := n2_
                          have HI713 := n3_
                          have HB := n4_
                          clear n0_ n1_ n2_ n3_ n4_
                          refine start_ (n := 7) (S := fun w' => w'.cell? ⟨gb734, 0, none⟩ = some (.string t732) ∧ w'.cell? ⟨gb734, 1, none⟩ = some (.int .i64 t733)) (ds := []) #[false, false, false, false, false, false, false] (by kernel_rfl) rfl rfl ⟨(blk_cell BK734.out 0).trans rfl, (blk_cell BK734.out 1).trans rfl⟩ (fun hHeld => ?_)
                          generalize w72.drew = w73 at BK714 BK716 BK734 HI713 HB hHeld ⊢
                          refine pure_ (i := 0) (N := some 79) (v := ?_) (a' := ?_) #[true, false, false, false, false, false, false] rfl rfl (by kernel_rfl) (fun _ _ _ h => h) (Or.inl ⟨by rfl, ?_⟩) ?_ ?_
                          rotate_left
                          · intro w'
                            go_simp
                            with_reducible rfl
                          rotate_left
                          · simp only [Act.put, List.setIfInBounds_toArray, List.set_cons_zero, List.set_cons_succ, i64_w, i32_w]
                            rfl
                          refine pure_ (i := 2) (N := some 81) (v := ?_) (a' := ?_) #[true, false, true, false, false, false, false] rfl rfl (by kernel_rfl) (fun _ _ _ h => h) (Or.inl ⟨by rfl, ?_⟩) ?_ ?_
                          rotate_left
                          · intro w'
                            go_simp
                            with_reducible rfl
                          rotate_left
                          · simp only [Act.put, List.setIfInBounds_toArray, List.set_cons_zero, List.set_cons_succ, i64_w, i32_w]
                            rfl
                          refine take_ (i := 4) (N := some 83) (v := ?_) (a' := ?_) #[true, false, true, false, true, false, false] rfl rfl (by kernel_rfl) (fun _ _ _ h => h) (Or.inl ⟨by rfl, ?_⟩) hHeld ?_ ?_
                          rotate_left
                          · rintro w' ⟨s0, s1⟩
                            go_simp
                            with_reducible rfl
                          rotate_left
                          · simp only [Act.put, List.setIfInBounds_toArray, List.set_cons_zero, List.set_cons_succ, i64_w, i32_w]
                            rfl
                          refine one_ (i := 1) (N := some 80) #[true, true, true, false, true, false, false] rfl rfl (by kernel_rfl) (by decide) (fun K hK => ?_)
                          refine goes_ Try.func75 (by kernel_rfl) rfl #[.pointer (some ⟨g713, 0, none⟩)] (by rfl) rfl rfl (by (try simp only [List.map_toArray, List.map_cons, List.map_nil]); first | done | rfl | (simp only [List.length_drop, List.length_take]; rfl)) ?_
                          with_reducible refine (wire_Reader_Bool.calls g713 x714000_2 x714001_2 t735 t736 t737 w _ ?side1 ?side2 A62.out).mono ?_
                          (case side1 => repeat (first | (with_reducible first | exact HI713.out | apply IsS110.alloc | apply IsS110.drewN | apply IsS110.drew | apply IsS110.set_0 | apply IsS110.set_1 | refine IsS110.far ?_ NB713_714.out _ | refine IsS110.far ?_ NB713_716.out _ | refine IsS110.far ?_ NB713_734.out _) | exact HI713.out))
                          (case side2 => repeat (first | (with_reducible first | exact HB.out | apply below_alloc | apply pw_below_drewN | apply below_drew1 | refine below_set ?_ (IsS110.ge HI713.out) | refine below_set ?_ GE714.out | refine below_set ?_ GE716.out | refine below_set ?_ GE734.out) | exact HB.out))
                          rintro e w74 ⟨rfl, hi, hb, hk⟩
                          refine ⟨_, rfl, ?_⟩
                          have n0_ := Aside0.mk (KeepBut.blk hk (g' := gb714) (o := .cells #[.string x715000_2, .int .i64 x715001_2] 69 (0, 0)) (by (with_reducible repeat (first | refine blk_drewN ?_ _ | refine blk_drew ?_ | refine blk_alloc ?_ _)); exact BK714.out) NB714_713.out (by simp))
                          have n1_ := Aside0.mk (KeepBut.blk hk (g' := gb716) (o := .cells #[.int .u8 ((rd_T71 l1 x41_2).f0), .int .i64 ((rd_T71 l1 x41_2).f1)] 71 (0, 0)) (by (with_reducible repeat (first | refine blk_drewN ?_ _ | refine blk_drew ?_ | refine blk_alloc ?_ _)); exact BK716.out) NB716_713.out (by simp))
                          have n2_ := Aside0.mk (KeepBut.blk hk (g' := gb734) (o := .cells #[.string t732, .int .i64 t733] 69 (0, 0)) (by (with_reducible repeat (first | refine blk_drewN ?_ _ | refine blk_drew ?_ | refine blk_alloc ?_ _)); exact BK734.out) NB734_713.out (by simp))
                          have n3_ := Aside0.mk (hb)
                          have n4_ := Aside0.mk (hi)
                          clear BK714
                          clear BK716
                          clear BK734
                          clear HB
                          clear HI713
                          have BK714 := n0_
                          have BK716 := n1_
                          have BK734 := n2_
                          have HB := n3_
                          have HI713 := n4_
                          clear n0_ n1_ n2_ n3_ n4_
                          (try clear hb)
                          (try clear hb2)
                          (try clear hk)
                          (try clear hi)
                          refine hK.out _ _ ⟨(blk_cell BK734.out 0).trans rfl, (blk_cell BK734.out 1).trans rfl⟩ (fun hHeld => ?_)
                          clear hK K
                          refine norm_ (a' := ?_) ?_ ?_
                          rotate_left
                          · show Act.put _ (some 80) _ = _
                            simp only [Act.put, List.setIfInBounds_toArray, List.set_cons_zero, List.set_cons_succ, i64_w, i32_w]
                            rfl
                          refine pure_ (i := 3) (N := some 82) (v := ?_) (a' := ?_) #[true, true, true, true, true, false, false] rfl rfl (by kernel_rfl) (fun _ _ _ h => h) (Or.inl ⟨by rfl, ?_⟩) ?_ ?_
                          rotate_left
                          · intro w'
                            go_simp
                            with_reducible rfl
                          rotate_left
                          · simp only [Act.put, List.setIfInBounds_toArray, List.set_cons_zero, List.set_cons_succ, i64_w, i32_w]
                            rfl
                          refine pure_ (i := 5) (N := some 9) (v := ?_) (a' := ?_) #[true, true, true, true, true, true, false] rfl rfl (by kernel_rfl) (fun _ _ _ h => h) (Or.inl ⟨by rfl, ?_⟩) ?_ ?_
                          rotate_left
                          · intro w'
                            go_simp
                            with_reducible rfl
                          rotate_left
                          · simp only [Act.put, List.setIfInBounds_toArray, List.set_cons_zero, List.set_cons_succ, i64_w, i32_w]
                            rfl
                          refine one_ (i := 6) (N := none) #[true, true, true, true, true, true, true] rfl rfl (by kernel_rfl) (by decide) (fun K hK => ?_)
                          have hs75 : w74.cell? ⟨gb714, 0, none⟩ = some (.string x715000_2) := (blk_cell BK714.out 0).trans rfl
                          have hfs75 := blk_frozen BK714.out 0
                          have hns75_1 := NB716_714.out
                          have hns75_2 := NB734_714.out
                          have hms75_1 := NB714_716.out
                          have hms75_2 := NB714_734.out
                          have hs76 : w74.cell? ⟨gb714, 1, none⟩ = some (.int .i64 x715001_2) := (blk_cell BK714.out 1).trans rfl
                          have hfs76 := blk_frozen BK714.out 1
                          have hns76_1 := NB716_714.out
                          have hns76_2 := NB734_714.out
                          have hms76_1 := NB714_716.out
                          have hms76_2 := NB714_734.out
                          refine skip_ (w1 := ?_) (by rfl) rfl ?_ ?_
                          rotate_left
                          · go_simp
                            rfl
                          refine hK.out _ _ ⟨((cell_far (p := ⟨gb714, _, none⟩) NB734_714.out _).trans (((cell_far (p := ⟨gb714, _, none⟩) NB734_714.out _).trans (hHeld.1)))), ((cell_far (p := ⟨gb714, _, none⟩) NB734_714.out _).trans (((cell_far (p := ⟨gb714, _, none⟩) NB734_714.out _).trans (hHeld.2))))⟩ (fun hHeld => ?_)
                          clear hK K
                          refine done_ (by kernel_rfl) ?_
                          try go_wp2
                          go_meet
                          case rel => exact ⟨_, ((t735 == t731)), (t736), (t737), (t732), (t733), (by first | rfl | (simp; done) | (simp [*]; done)), H', ⟨by have := HJ2.out; have := HK2.out; first | omega | exact Nat.le_refl _⟩, ⟨by (with_reducible repeat (first | refine blk_drewN ?_ _ | refine blk_drew ?_ | refine blk_alloc ?_ _)); refine blk_put (cs := #[.string t732, .int .i64 x715001_2]) ?_ 1 _ rfl; (with_reducible repeat (first | refine blk_drewN ?_ _ | refine blk_drew ?_ | refine blk_alloc ?_ _)); refine blk_put (cs := #[.string x715000_2, .int .i64 x715001_2]) ?_ 0 _ rfl; (with_reducible repeat (first | refine blk_drewN ?_ _ | refine blk_drew ?_ | refine blk_alloc ?_ _)); exact BK714.out⟩, ⟨by (with_reducible repeat (first | refine blk_drewN ?_ _ | refine blk_drew ?_ | refine blk_alloc ?_ _)); refine blk_far ?_ NB716_714.out _; (with_reducible repeat (first | refine blk_drewN ?_ _ | refine blk_drew ?_ | refine blk_alloc ?_ _)); refine blk_far ?_ NB716_714.out _; (with_reducible repeat (first | refine blk_drewN ?_ _ | refine blk_drew ?_ | refine blk_alloc ?_ _)); exact BK716.out⟩, ⟨by repeat (first | (with_reducible first | exact HI713.out | apply IsS110.alloc | apply IsS110.drewN | apply IsS110.drew | apply IsS110.set_0 | apply IsS110.set_1 | refine IsS110.far ?_ NB713_714.out _ | refine IsS110.far ?_ NB713_716.out _ | refine IsS110.far ?_ NB713_734.out _) | exact HI713.out)⟩, ⟨by repeat (first | (with_reducible first | exact HB.out | apply below_alloc | apply pw_below_drewN | apply below_drew1 | refine below_set ?_ (IsS110.ge HI713.out) | refine below_set ?_ GE714.out | refine below_set ?_ GE716.out | refine below_set ?_ GE734.out) | exact HB.out)⟩⟩
                        · rw [if_neg c60] at H
                          have c60b0 : ((Int.tmod ((rd_T71 l1 x41_2).f0) 5) == 2) = false := beq_eq_false_iff_ne.mpr c60
                          have c60b1 : ((Int.tmod ((rd_T71 l1 x41_2).f0) 5) != 2) = true := bne_iff_ne.mpr c60
                          by_cases c77 : (Int.tmod ((rd_T71 l1 x41_2).f0) 5) = 3
                          · rw [if_pos c77] at H
                            have c77b0 : ((Int.tmod ((rd_T71 l1 x41_2).f0) 5) == 3) = true := beq_iff_eq.mpr c77
                            have c77b1 : ((Int.tmod ((rd_T71 l1 x41_2).f0) 5) != 3) = false := bne_eq_false_iff_eq.mpr c77
                            clear c77
                            replace H := Option.bind_eq_some_iff.mp H
                            obtain ⟨⟨t738, t739, t740⟩, A780, H⟩ := H
                            replace H : ((wire_Reader_Text.f x714000_2 x714001_2 ((rd_T71 l1 x41_2).f1)).bind fun bt742 => (dasdlaw01_WireReads.j2 k2 (bt742.1.toList == t738.toList) l1 (l1.length : Int) x41_2 bt742.2.1 bt742.2.2 t739 t740)) = some r := H
                            have A78 := Aside0.mk A780
                            clear A780
                            replace H := Option.bind_eq_some_iff.mp H
                            obtain ⟨⟨t742, t743, t744⟩, A790, H⟩ := H
                            replace H : (dasdlaw01_WireReads.j2 k2 (t742.toList == t738.toList) l1 (l1.length : Int) x41_2 t743 t744 t739 t740) = some r := H
                            have A79 := Aside0.mk A790
                            clear A790
                            have H' := Aside0.mk H
                            clear H
                            have hnb80 := NB714_716.out
                            have hnc80 := NB716_714.out
                            have hnb81 := NB714_713.out
                            have hnc81 := NB713_714.out
                            have hcz82_0 : w22.cell? ⟨gb714, 0, none⟩ = some (.string x715000_2) := (blk_cell BK714.out 0).trans rfl
                            have hcz82_1 : w22.cell? ⟨gb714, 1, none⟩ = some (.int .i64 x715001_2) := (blk_cell BK714.out 1).trans rfl
                            have hfz82_0 := blk_frozen BK714.out 0
                            have hfz82_1 := blk_frozen BK714.out 1
                            have hnb83 := NB716_713.out
                            have hnc83 := NB713_716.out
                            have hcz84_0 : w22.cell? ⟨gb716, 0, none⟩ = some (.int .u8 0) := (blk_cell BK716.out 0).trans rfl
                            have hcz84_1 : w22.cell? ⟨gb716, 1, none⟩ = some (.int .i64 0) := (blk_cell BK716.out 1).trans rfl
                            have hfz84_0 := blk_frozen BK716.out 0
                            have hfz84_1 := blk_frozen BK716.out 1
                            try go_wp2_with (first | ((with_reducible refine gate_callee (f := 76) rfl ?_); refine goesL_ (some 90) rfl rfl Try.func76 (by kernel_rfl) rfl #[.agg #[.string x715000_2, .int .i64 x715001_2], .int .i64 ((rd_T71 l1 x41_2).f1)] rfl (by (try simp only [List.map_toArray, List.map_cons, List.map_nil]); first | done | rfl | (simp only [List.length_drop, List.length_take]; rfl)) ?_; (with_reducible refine (dasdref01_ReadText.calls k2 x715000_2 x715001_2 ((rd_T71 l1 x41_2).f1) t738 t739 t740 _ A78.out).mono ?_); rintro e w85 ⟨rfl, hb⟩; refine ⟨_, rfl, ?_⟩; have n0_ := Aside0.mk (blk_below (g := gb714) (o := .cells #[.string x715000_2, .int .i64 x715001_2] 69 (0, 0)) (by (with_reducible repeat (first | refine blk_drewN ?_ _ | refine blk_drew ?_ | refine blk_alloc ?_ _)); refine blk_far ?_ NB714_716.out _; (with_reducible repeat (first | refine blk_drewN ?_ _ | refine blk_drew ?_ | refine blk_alloc ?_ _)); refine blk_far ?_ NB714_716.out _; (with_reducible repeat (first | refine blk_drewN ?_ _ | refine blk_drew ?_ | refine blk_alloc ?_ _)); exact BK714.out) hb); have n1_ := Aside0.mk (IsS110.below (show IsS110 w ((w22.setCell ⟨gb716, 0, none⟩ (.int .u8 ((rd_T71 l1 x41_2).f0))).setCell ⟨gb716, 1, none⟩ (.int .i64 ((rd_T71 l1 x41_2).f1))) g713 x714000_2 x714001_2 from by repeat (first | (with_reducible first | exact HI713.out | apply IsS110.alloc | apply IsS110.drewN | apply IsS110.drew | apply IsS110.set_0 | apply IsS110.set_1 | refine IsS110.far ?_ NB713_714.out _ | refine IsS110.far ?_ NB713_716.out _) | exact HI713.out)) hb); have n2_ := Aside0.mk (blk_below (g := gb716) (o := .cells #[.int .u8 ((rd_T71 l1 x41_2).f0), .int .i64 ((rd_T71 l1 x41_2).f1)] 71 (0, 0)) (by (with_reducible repeat (first | refine blk_drewN ?_ _ | refine blk_drew ?_ | refine blk_alloc ?_ _)); refine blk_put (cs := #[.int .u8 ((rd_T71 l1 x41_2).f0), .int .i64 0]) ?_ 1 _ rfl; (with_reducible repeat (first | refine blk_drewN ?_ _ | refine blk_drew ?_ | refine blk_alloc ?_ _)); refine blk_put (cs := #[.int .u8 0, .int .i64 0]) ?_ 0 _ rfl; (with_reducible repeat (first | refine blk_drewN ?_ _ | refine blk_drew ?_ | refine blk_alloc ?_ _)); exact BK716.out) hb); have n3_ := Aside0.mk (below_step (by repeat (first | (with_reducible first | exact HB.out | apply below_alloc | apply pw_below_drewN | apply below_drew1 | refine below_set ?_ (IsS110.ge HI713.out) | refine below_set ?_ GE714.out | refine below_set ?_ GE716.out) | exact HB.out)) hb); clear BK714; clear HI713; clear BK716; clear HB; have BK714 := n0_; have HI713 := n1_; have BK716 := n2_; have HB := n3_; clear n0_ n1_ n2_ n3_; (try clear hb); (try clear hb2); (try clear hk); (try clear hi)) | ((with_reducible refine gate_dst (N := 17) rfl ?_); (try (refine gate_guard (by rfl) ?_; dsimp only)); refine box_event ?hg (N := 17) ?hd (cs := #[.string (⟨#[]⟩ : ByteArray), .int .i64 0]) (t := 69) ?hr ?_; (case hd => rfl); (case hg => rfl); (case hr => first | (go_simp; done) | (go_simp; rfl)); intro gb741 hg w86 hbox hb; have n0_ := Aside0.mk (blk_below (g := gb714) (o := .cells #[.string x715000_2, .int .i64 x715001_2] 69 (0, 0)) (by (with_reducible repeat (first | refine blk_drewN ?_ _ | refine blk_drew ?_ | refine blk_alloc ?_ _)); exact BK714.out) hb); have n1_ := Aside0.mk (IsS110.below (by repeat (first | (with_reducible first | exact HI713.out | apply IsS110.alloc | apply IsS110.drewN | apply IsS110.drew | apply IsS110.set_0 | apply IsS110.set_1 | refine IsS110.far ?_ NB713_714.out _ | refine IsS110.far ?_ NB713_716.out _) | exact HI713.out)) hb); have n2_ := Aside0.mk (blk_below (g := gb716) (o := .cells #[.int .u8 ((rd_T71 l1 x41_2).f0), .int .i64 ((rd_T71 l1 x41_2).f1)] 71 (0, 0)) (by (with_reducible repeat (first | refine blk_drewN ?_ _ | refine blk_drew ?_ | refine blk_alloc ?_ _)); exact BK716.out) hb); have n3_ := Aside0.mk (below_step (by repeat (first | (with_reducible first | exact HB.out | apply below_alloc | apply pw_below_drewN | apply below_drew1 | refine below_set ?_ (IsS110.ge HI713.out) | refine below_set ?_ GE714.out | refine below_set ?_ GE716.out) | exact HB.out)) hb); have n4_ := Aside0.mk (hbox); have n5_ := Aside0.mk ((by rw [hg]; exact (below_size (by repeat (first | (with_reducible first | exact HB.out | apply below_alloc | apply pw_below_drewN | apply below_drew1 | refine below_set ?_ (IsS110.ge HI713.out) | refine below_set ?_ GE714.out | refine below_set ?_ GE716.out) | exact HB.out))) : w.heap.size ≤ gb741)); have n6_ := Aside0.mk ((by rw [hg]; exact (below_size (by repeat (first | (with_reducible first | exact HB.out | apply below_alloc | apply pw_below_drewN | apply below_drew1 | refine below_set ?_ (IsS110.ge HI713.out) | refine below_set ?_ GE714.out | refine below_set ?_ GE716.out) | exact HB.out))) : w.heap.size ≤ gb741)); have n7_ := Aside0.mk ((by rw [hg]; exact Nat.ne_of_lt (blk_lt (g := gb714) (o := .cells #[.string x715000_2, .int .i64 x715001_2] 69 (0, 0)) (by (with_reducible repeat (first | refine blk_drewN ?_ _ | refine blk_drew ?_ | refine blk_alloc ?_ _)); exact BK714.out)) : gb714 ≠ gb741)); have n8_ := Aside0.mk ((by rw [hg]; exact Nat.ne_of_gt (blk_lt (g := gb714) (o := .cells #[.string x715000_2, .int .i64 x715001_2] 69 (0, 0)) (by (with_reducible repeat (first | refine blk_drewN ?_ _ | refine blk_drew ?_ | refine blk_alloc ?_ _)); exact BK714.out)) : gb741 ≠ gb714)); have n9_ := Aside0.mk ((by rw [hg]; exact Nat.ne_of_lt (blk_lt (g := gb716) (o := .cells #[.int .u8 ((rd_T71 l1 x41_2).f0), .int .i64 ((rd_T71 l1 x41_2).f1)] 71 (0, 0)) (by (with_reducible repeat (first | refine blk_drewN ?_ _ | refine blk_drew ?_ | refine blk_alloc ?_ _)); exact BK716.out)) : gb716 ≠ gb741)); have n10_ := Aside0.mk ((by rw [hg]; exact Nat.ne_of_gt (blk_lt (g := gb716) (o := .cells #[.int .u8 ((rd_T71 l1 x41_2).f0), .int .i64 ((rd_T71 l1 x41_2).f1)] 71 (0, 0)) (by (with_reducible repeat (first | refine blk_drewN ?_ _ | refine blk_drew ?_ | refine blk_alloc ?_ _)); exact BK716.out)) : gb741 ≠ gb716)); have n11_ := Aside0.mk ((by rw [hg]; exact Nat.ne_of_lt (IsS110.lt (show IsS110 w _ g713 x714000_2 x714001_2 from by repeat (first | (with_reducible first | exact HI713.out | apply IsS110.alloc | apply IsS110.drewN | apply IsS110.drew | apply IsS110.set_0 | apply IsS110.set_1 | refine IsS110.far ?_ NB713_714.out _ | refine IsS110.far ?_ NB713_716.out _) | exact HI713.out))) : g713 ≠ gb741)); have n12_ := Aside0.mk ((by rw [hg]; exact Nat.ne_of_gt (IsS110.lt (show IsS110 w _ g713 x714000_2 x714001_2 from by repeat (first | (with_reducible first | exact HI713.out | apply IsS110.alloc | apply IsS110.drewN | apply IsS110.drew | apply IsS110.set_0 | apply IsS110.set_1 | refine IsS110.far ?_ NB713_714.out _ | refine IsS110.far ?_ NB713_716.out _) | exact HI713.out))) : gb741 ≠ g713)); clear BK714; clear HI713; clear BK716; clear HB; have BK714 := n0_; have HI713 := n1_; have BK716 := n2_; have HB := n3_; have BK741 := n4_; have GW741 := n5_; have GE741 := n6_; have NB714_741 := n7_; have NB741_714 := n8_; have NB716_741 := n9_; have NB741_716 := n10_; have NB713_741 := n11_; have NB741_713 := n12_; clear n0_ n1_ n2_ n3_ n4_ n5_ n6_ n7_ n8_ n9_ n10_ n11_ n12_; clear hb hbox hg; have hnb87 := NB741_714.out; have hnc87 := NB714_741.out; have hnb88 := NB741_716.out; have hnc88 := NB716_741.out; have hnb89 := NB741_713.out; have hnc89 := NB713_741.out; have hcz90_0 : w86.cell? ⟨gb741, 0, none⟩ = some (.string (⟨#[]⟩ : ByteArray)) := (blk_cell BK741.out 0).trans rfl; have hcz90_1 : w86.cell? ⟨gb741, 1, none⟩ = some (.int .i64 0) := (blk_cell BK741.out 1).trans rfl; have hfz90_0 := blk_frozen BK741.out 0; have hfz90_1 := blk_frozen BK741.out 1))
                            have n0_ : Aside0 (((w86.setCell ⟨gb741, 0, none⟩ (.string t739)).setCell ⟨gb741, 1, none⟩ (.int .i64 t740)).heap[gb714]? = some (.cells #[.string x715000_2, .int .i64 x715001_2] 69 (0, 0))) := ⟨by (with_reducible repeat (first | refine blk_drewN ?_ _ | refine blk_drew ?_ | refine blk_alloc ?_ _)); refine blk_far ?_ NB714_741.out _; (with_reducible repeat (first | refine blk_drewN ?_ _ | refine blk_drew ?_ | refine blk_alloc ?_ _)); refine blk_far ?_ NB714_741.out _; (with_reducible repeat (first | refine blk_drewN ?_ _ | refine blk_drew ?_ | refine blk_alloc ?_ _)); exact BK714.out⟩
                            have n1_ : Aside0 (((w86.setCell ⟨gb741, 0, none⟩ (.string t739)).setCell ⟨gb741, 1, none⟩ (.int .i64 t740)).heap[gb716]? = some (.cells #[.int .u8 ((rd_T71 l1 x41_2).f0), .int .i64 ((rd_T71 l1 x41_2).f1)] 71 (0, 0))) := ⟨by (with_reducible repeat (first | refine blk_drewN ?_ _ | refine blk_drew ?_ | refine blk_alloc ?_ _)); refine blk_far ?_ NB716_741.out _; (with_reducible repeat (first | refine blk_drewN ?_ _ | refine blk_drew ?_ | refine blk_alloc ?_ _)); refine blk_far ?_ NB716_741.out _; (with_reducible repeat (first | refine blk_drewN ?_ _ | refine blk_drew ?_ | refine blk_alloc ?_ _)); exact BK716.out⟩
                            have n2_ : Aside0 (((w86.setCell ⟨gb741, 0, none⟩ (.string t739)).setCell ⟨gb741, 1, none⟩ (.int .i64 t740)).heap[gb741]? = some (.cells #[.string t739, .int .i64 t740] 69 (0, 0))) := ⟨by (with_reducible repeat (first | refine blk_drewN ?_ _ | refine blk_drew ?_ | refine blk_alloc ?_ _)); refine blk_put (cs := #[.string t739, .int .i64 0]) ?_ 1 _ rfl; (with_reducible repeat (first | refine blk_drewN ?_ _ | refine blk_drew ?_ | refine blk_alloc ?_ _)); refine blk_put (cs := #[.string (⟨#[]⟩ : ByteArray), .int .i64 0]) ?_ 0 _ rfl; (with_reducible repeat (first | refine blk_drewN ?_ _ | refine blk_drew ?_ | refine blk_alloc ?_ _)); exact BK741.out⟩
                            have n3_ : Aside0 (IsS110 w ((w86.setCell ⟨gb741, 0, none⟩ (.string t739)).setCell ⟨gb741, 1, none⟩ (.int .i64 t740)) g713 x714000_2 x714001_2) := ⟨by repeat (first | (with_reducible first | exact HI713.out | apply IsS110.alloc | apply IsS110.drewN | apply IsS110.drew | apply IsS110.set_0 | apply IsS110.set_1 | refine IsS110.far ?_ NB713_714.out _ | refine IsS110.far ?_ NB713_716.out _ | refine IsS110.far ?_ NB713_741.out _) | exact HI713.out)⟩
                            have n4_ : Aside0 (Below w.heap.size w ((w86.setCell ⟨gb741, 0, none⟩ (.string t739)).setCell ⟨gb741, 1, none⟩ (.int .i64 t740))) := ⟨by repeat (first | (with_reducible first | exact HB.out | apply below_alloc | apply pw_below_drewN | apply below_drew1 | refine below_set ?_ (IsS110.ge HI713.out) | refine below_set ?_ GE714.out | refine below_set ?_ GE716.out | refine below_set ?_ GE741.out) | exact HB.out)⟩
                            (try clear BK714)
                            (try clear BK716)
                            (try clear BK741)
                            (try clear HI713)
                            (try clear HB)
                            generalize ((w86.setCell ⟨gb741, 0, none⟩ (.string t739)).setCell ⟨gb741, 1, none⟩ (.int .i64 t740)) = w91 at n0_ n1_ n2_ n3_ n4_ ⊢
                            have BK714 := n0_
                            have BK716 := n1_
                            have BK741 := n2_
                            have HI713 := n3_
                            have HB := n4_
                            clear n0_ n1_ n2_ n3_ n4_
                            have n0_ := Aside0.mk (blk_drew BK714.out)
                            have n1_ := Aside0.mk (blk_drew BK716.out)
                            have n2_ := Aside0.mk (blk_drew BK741.out)
                            have n3_ := Aside0.mk (IsS110.drew HI713.out)
                            have n4_ := Aside0.mk (below_drew1 HB.out)
                            clear BK714
                            clear BK716
                            clear BK741
                            clear HI713
                            clear HB
                            have BK714 := n0_
                            have BK716 := n1_
                            have BK741 := n2_
                            have HI713 := n3_
                            have HB := n4_
                            clear n0_ n1_ n2_ n3_ n4_
                            refine start_ (n := 9) (S := fun w' => w'.cell? ⟨gb716, 0, none⟩ = some (.int .u8 ((rd_T71 l1 x41_2).f0)) ∧ w'.cell? ⟨gb716, 1, none⟩ = some (.int .i64 ((rd_T71 l1 x41_2).f1)) ∧ w'.cell? ⟨gb741, 0, none⟩ = some (.string t739) ∧ w'.cell? ⟨gb741, 1, none⟩ = some (.int .i64 t740)) (ds := []) #[false, false, false, false, false, false, false, false, false] (by kernel_rfl) rfl rfl ⟨(blk_cell BK716.out 0).trans rfl, (blk_cell BK716.out 1).trans rfl, (blk_cell BK741.out 0).trans rfl, (blk_cell BK741.out 1).trans rfl⟩ (fun hHeld => ?_); refine with_tabW dasdlaw01_WireReads.tab22 dasdlaw01_WireReads.bits22 (fun HT_ HW_ => ?_)
                            generalize w91.drew = w92 at BK714 BK716 BK741 HI713 HB hHeld ⊢
                            refine pure_ (i := 0) (N := some 93) (v := ?_) (a' := ?_) #[true, false, false, false, false, false, false, false, false] rfl rfl (any_of HT_.out (by kernel_rfl)) (fun _ _ _ h => h) (Or.inl ⟨by rfl, ?_⟩) ?_ ?_
                            rotate_left
                            · intro w'
                              go_simp
                              with_reducible rfl
                            rotate_left
                            · simp only [Act.put, List.setIfInBounds_toArray, List.set_cons_zero, List.set_cons_succ, i64_w, i32_w]
                              rfl
                            refine pure_ (i := 1) (N := some 94) (v := ?_) (a' := ?_) #[true, true, false, false, false, false, false, false, false] rfl rfl (any_of HT_.out (by kernel_rfl)) (fun _ _ _ h => h) (Or.inl ⟨by rfl, ?_⟩) ?_ ?_
                            rotate_left
                            · intro w'
                              go_simp
                              with_reducible rfl
                            rotate_left
                            · simp only [Act.put, List.setIfInBounds_toArray, List.set_cons_zero, List.set_cons_succ, i64_w, i32_w]
                              rfl
                            refine pure_ (i := 4) (N := some 97) (v := ?_) (a' := ?_) #[true, true, false, false, true, false, false, false, false] rfl rfl (any_of HT_.out (by kernel_rfl)) (fun _ _ _ h => h) (Or.inl ⟨by rfl, ?_⟩) ?_ ?_
                            rotate_left
                            · intro w'
                              go_simp
                              with_reducible rfl
                            rotate_left
                            · simp only [Act.put, List.setIfInBounds_toArray, List.set_cons_zero, List.set_cons_succ, i64_w, i32_w]
                              rfl
                            refine take_ (i := 2) (N := some 95) (v := ?_) (a' := ?_) #[true, true, true, false, true, false, false, false, false] rfl rfl (take_ofW HT_.out HW_.out (by kernel_rfl)) (fun _ _ _ h => h) (Or.inl ⟨by rfl, ?_⟩) hHeld ?_ ?_
                            rotate_left
                            · rintro w' ⟨s0, s1, s2, s3⟩
                              go_simp
                              with_reducible rfl
                            rotate_left
                            · simp only [Act.put, List.setIfInBounds_toArray, List.set_cons_zero, List.set_cons_succ, i64_w, i32_w]
                              rfl
                            refine take_ (i := 6) (N := some 99) (v := ?_) (a' := ?_) #[true, true, true, false, true, false, true, false, false] rfl rfl (take_ofW HT_.out HW_.out (by kernel_rfl)) (fun _ _ _ h => h) (Or.inl ⟨by rfl, ?_⟩) hHeld ?_ ?_
                            rotate_left
                            · rintro w' ⟨s0, s1, s2, s3⟩
                              go_simp
                              with_reducible rfl
                            rotate_left
                            · simp only [Act.put, List.setIfInBounds_toArray, List.set_cons_zero, List.set_cons_succ, i64_w, i32_w]
                              rfl
                            refine one_ (i := 3) (N := some 96) #[true, true, true, true, true, false, true, false, false] rfl rfl (one_of HT_.out (by kernel_rfl)) (by decide) (fun K hK => ?_)
                            refine goes_ Try.func64 (by kernel_rfl) rfl #[.pointer (some ⟨g713, 0, none⟩), .int .i64 ((rd_T71 l1 x41_2).f1)] (by rfl) rfl rfl (by (try simp only [List.map_toArray, List.map_cons, List.map_nil]); first | done | rfl | (simp only [List.length_drop, List.length_take]; rfl)) ?_
                            with_reducible refine (wire_Reader_Text.calls g713 x714000_2 x714001_2 ((rd_T71 l1 x41_2).f1) t742 t743 t744 w _ ?side1 ?side2 A79.out).mono ?_
                            (case side1 => repeat (first | (with_reducible first | exact HI713.out | apply IsS110.alloc | apply IsS110.drewN | apply IsS110.drew | apply IsS110.set_0 | apply IsS110.set_1 | refine IsS110.far ?_ NB713_714.out _ | refine IsS110.far ?_ NB713_716.out _ | refine IsS110.far ?_ NB713_741.out _) | exact HI713.out))
                            (case side2 => repeat (first | (with_reducible first | exact HB.out | apply below_alloc | apply pw_below_drewN | apply below_drew1 | refine below_set ?_ (IsS110.ge HI713.out) | refine below_set ?_ GE714.out | refine below_set ?_ GE716.out | refine below_set ?_ GE741.out) | exact HB.out))
                            rintro e w93 ⟨rfl, hi, hb, hk⟩
                            refine ⟨_, rfl, ?_⟩
                            have n0_ := Aside0.mk (KeepBut.blk hk (g' := gb714) (o := .cells #[.string x715000_2, .int .i64 x715001_2] 69 (0, 0)) (by (with_reducible repeat (first | refine blk_drewN ?_ _ | refine blk_drew ?_ | refine blk_alloc ?_ _)); exact BK714.out) NB714_713.out (by simp))
                            have n1_ := Aside0.mk (KeepBut.blk hk (g' := gb716) (o := .cells #[.int .u8 ((rd_T71 l1 x41_2).f0), .int .i64 ((rd_T71 l1 x41_2).f1)] 71 (0, 0)) (by (with_reducible repeat (first | refine blk_drewN ?_ _ | refine blk_drew ?_ | refine blk_alloc ?_ _)); exact BK716.out) NB716_713.out (by simp))
                            have n2_ := Aside0.mk (KeepBut.blk hk (g' := gb741) (o := .cells #[.string t739, .int .i64 t740] 69 (0, 0)) (by (with_reducible repeat (first | refine blk_drewN ?_ _ | refine blk_drew ?_ | refine blk_alloc ?_ _)); exact BK741.out) NB741_713.out (by simp))
                            have n3_ := Aside0.mk (hb)
                            have n4_ := Aside0.mk (hi)
                            clear BK714
                            clear BK716
                            clear BK741
                            clear HB
                            clear HI713
                            have BK714 := n0_
                            have BK716 := n1_
                            have BK741 := n2_
                            have HB := n3_
                            have HI713 := n4_
                            clear n0_ n1_ n2_ n3_ n4_
                            (try clear hb)
                            (try clear hb2)
                            (try clear hk)
                            (try clear hi)
                            refine hK.out _ _ ⟨(blk_cell BK716.out 0).trans rfl, (blk_cell BK716.out 1).trans rfl, (blk_cell BK741.out 0).trans rfl, (blk_cell BK741.out 1).trans rfl⟩ (fun hHeld => ?_)
                            clear hK K
                            refine norm_ (a' := ?_) ?_ ?_
                            rotate_left
                            · show Act.put _ (some 96) _ = _
                              simp only [Act.put, List.setIfInBounds_toArray, List.set_cons_zero, List.set_cons_succ, i64_w, i32_w]
                              rfl
                            refine pure_ (i := 5) (N := some 98) (v := ?_) (a' := ?_) #[true, true, true, true, true, true, true, false, false] rfl rfl (any_of HT_.out (by kernel_rfl)) (fun _ _ _ h => h) (Or.inl ⟨by rfl, ?_⟩) ?_ ?_
                            rotate_left
                            · intro w'
                              go_simp
                              with_reducible rfl
                            rotate_left
                            · simp only [Act.put, List.setIfInBounds_toArray, List.set_cons_zero, List.set_cons_succ, i64_w, i32_w]
                              rfl
                            refine pure_ (i := 7) (N := some 9) (v := ?_) (a' := ?_) #[true, true, true, true, true, true, true, true, false] rfl rfl (any_of HT_.out (by kernel_rfl)) (fun _ _ _ h => h) (Or.inl ⟨by rfl, ?_⟩) ?_ ?_
                            rotate_left
                            · intro w'
                              go_simp
                              with_reducible rfl
                            rotate_left
                            · simp only [Act.put, List.setIfInBounds_toArray, List.set_cons_zero, List.set_cons_succ, i64_w, i32_w]
                              rfl
                            refine one_ (i := 8) (N := none) #[true, true, true, true, true, true, true, true, true] rfl rfl (one_of HT_.out (by kernel_rfl)) (by decide) (fun K hK => ?_)
                            have hs94 : w93.cell? ⟨gb714, 0, none⟩ = some (.string x715000_2) := (blk_cell BK714.out 0).trans rfl
                            have hfs94 := blk_frozen BK714.out 0
                            have hns94_1 := NB716_714.out
                            have hns94_2 := NB741_714.out
                            have hms94_1 := NB714_716.out
                            have hms94_2 := NB714_741.out
                            have hs95 : w93.cell? ⟨gb714, 1, none⟩ = some (.int .i64 x715001_2) := (blk_cell BK714.out 1).trans rfl
                            have hfs95 := blk_frozen BK714.out 1
                            have hns95_1 := NB716_714.out
                            have hns95_2 := NB741_714.out
                            have hms95_1 := NB714_716.out
                            have hms95_2 := NB714_741.out
                            refine skip_ (w1 := ?_) (by rfl) rfl ?_ ?_
                            rotate_left
                            · go_simp
                              rfl
                            refine hK.out _ _ ⟨((cell_far (p := ⟨gb714, _, none⟩) NB716_714.out _).trans (((cell_far (p := ⟨gb714, _, none⟩) NB716_714.out _).trans (hHeld.1)))), ((cell_far (p := ⟨gb714, _, none⟩) NB716_714.out _).trans (((cell_far (p := ⟨gb714, _, none⟩) NB716_714.out _).trans (hHeld.2.1)))), ((cell_far (p := ⟨gb714, _, none⟩) NB741_714.out _).trans (((cell_far (p := ⟨gb714, _, none⟩) NB741_714.out _).trans (hHeld.2.2.1)))), ((cell_far (p := ⟨gb714, _, none⟩) NB741_714.out _).trans (((cell_far (p := ⟨gb714, _, none⟩) NB741_714.out _).trans (hHeld.2.2.2))))⟩ (fun hHeld => ?_)
                            clear hK K
                            refine done_ (done_of HT_.out (by kernel_rfl)) ?_
                            try go_wp2
                            go_meet
                            case rel => exact ⟨_, ((t742.toList == t738.toList)), (t743), (t744), (t739), (t740), (by first | rfl | (simp; done) | (simp [*]; done)), H', ⟨by have := HJ2.out; have := HK2.out; first | omega | exact Nat.le_refl _⟩, ⟨by (with_reducible repeat (first | refine blk_drewN ?_ _ | refine blk_drew ?_ | refine blk_alloc ?_ _)); refine blk_put (cs := #[.string t739, .int .i64 x715001_2]) ?_ 1 _ rfl; (with_reducible repeat (first | refine blk_drewN ?_ _ | refine blk_drew ?_ | refine blk_alloc ?_ _)); refine blk_put (cs := #[.string x715000_2, .int .i64 x715001_2]) ?_ 0 _ rfl; (with_reducible repeat (first | refine blk_drewN ?_ _ | refine blk_drew ?_ | refine blk_alloc ?_ _)); exact BK714.out⟩, ⟨by (with_reducible repeat (first | refine blk_drewN ?_ _ | refine blk_drew ?_ | refine blk_alloc ?_ _)); refine blk_far ?_ NB716_714.out _; (with_reducible repeat (first | refine blk_drewN ?_ _ | refine blk_drew ?_ | refine blk_alloc ?_ _)); refine blk_far ?_ NB716_714.out _; (with_reducible repeat (first | refine blk_drewN ?_ _ | refine blk_drew ?_ | refine blk_alloc ?_ _)); exact BK716.out⟩, ⟨by repeat (first | (with_reducible first | exact HI713.out | apply IsS110.alloc | apply IsS110.drewN | apply IsS110.drew | apply IsS110.set_0 | apply IsS110.set_1 | refine IsS110.far ?_ NB713_714.out _ | refine IsS110.far ?_ NB713_716.out _ | refine IsS110.far ?_ NB713_741.out _) | exact HI713.out)⟩, ⟨by repeat (first | (with_reducible first | exact HB.out | apply below_alloc | apply pw_below_drewN | apply below_drew1 | refine below_set ?_ (IsS110.ge HI713.out) | refine below_set ?_ GE714.out | refine below_set ?_ GE716.out | refine below_set ?_ GE741.out) | exact HB.out)⟩⟩
                          · rw [if_neg c77] at H
                            have c77b0 : ((Int.tmod ((rd_T71 l1 x41_2).f0) 5) == 3) = false := beq_eq_false_iff_ne.mpr c77
                            have c77b1 : ((Int.tmod ((rd_T71 l1 x41_2).f0) 5) != 3) = true := bne_iff_ne.mpr c77
                            by_cases c96 : (Int.tmod ((rd_T71 l1 x41_2).f0) 5) = 4
                            · rw [if_pos c96] at H
                              have c96b0 : ((Int.tmod ((rd_T71 l1 x41_2).f0) 5) == 4) = true := beq_iff_eq.mpr c96
                              have c96b1 : ((Int.tmod ((rd_T71 l1 x41_2).f0) 5) != 4) = false := bne_eq_false_iff_eq.mpr c96
                              clear c96
                              replace H := Option.bind_eq_some_iff.mp H
                              obtain ⟨⟨t745, t746, t747⟩, A970, H⟩ := H
                              replace H : ((wire_Reader_Count.f x714000_2 x714001_2 ((rd_T71 l1 x41_2).f1)).bind fun bt749 => (dasdlaw01_WireReads.j2 k2 (bt749.1 == t745) l1 (l1.length : Int) x41_2 bt749.2.1 bt749.2.2 t746 t747)) = some r := H
                              have A97 := Aside0.mk A970
                              clear A970
                              replace H := Option.bind_eq_some_iff.mp H
                              obtain ⟨⟨t749, t750, t751⟩, A980, H⟩ := H
                              replace H : (dasdlaw01_WireReads.j2 k2 (t749 == t745) l1 (l1.length : Int) x41_2 t750 t751 t746 t747) = some r := H
                              have A98 := Aside0.mk A980
                              clear A980
                              have H' := Aside0.mk H
                              clear H
                              have hnb99 := NB714_716.out
                              have hnc99 := NB716_714.out
                              have hnb100 := NB714_713.out
                              have hnc100 := NB713_714.out
                              have hcz101_0 : w22.cell? ⟨gb714, 0, none⟩ = some (.string x715000_2) := (blk_cell BK714.out 0).trans rfl
                              have hcz101_1 : w22.cell? ⟨gb714, 1, none⟩ = some (.int .i64 x715001_2) := (blk_cell BK714.out 1).trans rfl
                              have hfz101_0 := blk_frozen BK714.out 0
                              have hfz101_1 := blk_frozen BK714.out 1
                              have hnb102 := NB716_713.out
                              have hnc102 := NB713_716.out
                              have hcz103_0 : w22.cell? ⟨gb716, 0, none⟩ = some (.int .u8 0) := (blk_cell BK716.out 0).trans rfl
                              have hcz103_1 : w22.cell? ⟨gb716, 1, none⟩ = some (.int .i64 0) := (blk_cell BK716.out 1).trans rfl
                              have hfz103_0 := blk_frozen BK716.out 0
                              have hfz103_1 := blk_frozen BK716.out 1
                              try go_wp2_with (first | ((with_reducible refine gate_callee (f := 77) rfl ?_); refine goesL_ (some 106) rfl rfl Try.func77 (by kernel_rfl) rfl #[.agg #[.string x715000_2, .int .i64 x715001_2], .int .i64 ((rd_T71 l1 x41_2).f1)] rfl (by (try simp only [List.map_toArray, List.map_cons, List.map_nil]); first | done | rfl | (simp only [List.length_drop, List.length_take]; rfl)) ?_; (with_reducible refine (dasdref01_ReadCount.calls k2 x715000_2 x715001_2 ((rd_T71 l1 x41_2).f1) t745 t746 t747 _ A97.out).mono ?_); rintro e w104 ⟨rfl, hb⟩; refine ⟨_, rfl, ?_⟩; have n0_ := Aside0.mk (blk_below (g := gb714) (o := .cells #[.string x715000_2, .int .i64 x715001_2] 69 (0, 0)) (by (with_reducible repeat (first | refine blk_drewN ?_ _ | refine blk_drew ?_ | refine blk_alloc ?_ _)); refine blk_far ?_ NB714_716.out _; (with_reducible repeat (first | refine blk_drewN ?_ _ | refine blk_drew ?_ | refine blk_alloc ?_ _)); refine blk_far ?_ NB714_716.out _; (with_reducible repeat (first | refine blk_drewN ?_ _ | refine blk_drew ?_ | refine blk_alloc ?_ _)); exact BK714.out) hb); have n1_ := Aside0.mk (IsS110.below (show IsS110 w ((w22.setCell ⟨gb716, 0, none⟩ (.int .u8 ((rd_T71 l1 x41_2).f0))).setCell ⟨gb716, 1, none⟩ (.int .i64 ((rd_T71 l1 x41_2).f1))) g713 x714000_2 x714001_2 from by repeat (first | (with_reducible first | exact HI713.out | apply IsS110.alloc | apply IsS110.drewN | apply IsS110.drew | apply IsS110.set_0 | apply IsS110.set_1 | refine IsS110.far ?_ NB713_714.out _ | refine IsS110.far ?_ NB713_716.out _) | exact HI713.out)) hb); have n2_ := Aside0.mk (blk_below (g := gb716) (o := .cells #[.int .u8 ((rd_T71 l1 x41_2).f0), .int .i64 ((rd_T71 l1 x41_2).f1)] 71 (0, 0)) (by (with_reducible repeat (first | refine blk_drewN ?_ _ | refine blk_drew ?_ | refine blk_alloc ?_ _)); refine blk_put (cs := #[.int .u8 ((rd_T71 l1 x41_2).f0), .int .i64 0]) ?_ 1 _ rfl; (with_reducible repeat (first | refine blk_drewN ?_ _ | refine blk_drew ?_ | refine blk_alloc ?_ _)); refine blk_put (cs := #[.int .u8 0, .int .i64 0]) ?_ 0 _ rfl; (with_reducible repeat (first | refine blk_drewN ?_ _ | refine blk_drew ?_ | refine blk_alloc ?_ _)); exact BK716.out) hb); have n3_ := Aside0.mk (below_step (by repeat (first | (with_reducible first | exact HB.out | apply below_alloc | apply pw_below_drewN | apply below_drew1 | refine below_set ?_ (IsS110.ge HI713.out) | refine below_set ?_ GE714.out | refine below_set ?_ GE716.out) | exact HB.out)) hb); clear BK714; clear HI713; clear BK716; clear HB; have BK714 := n0_; have HI713 := n1_; have BK716 := n2_; have HB := n3_; clear n0_ n1_ n2_ n3_; (try clear hb); (try clear hb2); (try clear hk); (try clear hi)) | ((with_reducible refine gate_dst (N := 19) rfl ?_); (try (refine gate_guard (by rfl) ?_; dsimp only)); refine box_event ?hg (N := 19) ?hd (cs := #[.string (⟨#[]⟩ : ByteArray), .int .i64 0]) (t := 69) ?hr ?_; (case hd => rfl); (case hg => rfl); (case hr => first | (go_simp; done) | (go_simp; rfl)); intro gb748 hg w105 hbox hb; have n0_ := Aside0.mk (blk_below (g := gb714) (o := .cells #[.string x715000_2, .int .i64 x715001_2] 69 (0, 0)) (by (with_reducible repeat (first | refine blk_drewN ?_ _ | refine blk_drew ?_ | refine blk_alloc ?_ _)); exact BK714.out) hb); have n1_ := Aside0.mk (IsS110.below (by repeat (first | (with_reducible first | exact HI713.out | apply IsS110.alloc | apply IsS110.drewN | apply IsS110.drew | apply IsS110.set_0 | apply IsS110.set_1 | refine IsS110.far ?_ NB713_714.out _ | refine IsS110.far ?_ NB713_716.out _) | exact HI713.out)) hb); have n2_ := Aside0.mk (blk_below (g := gb716) (o := .cells #[.int .u8 ((rd_T71 l1 x41_2).f0), .int .i64 ((rd_T71 l1 x41_2).f1)] 71 (0, 0)) (by (with_reducible repeat (first | refine blk_drewN ?_ _ | refine blk_drew ?_ | refine blk_alloc ?_ _)); exact BK716.out) hb); have n3_ := Aside0.mk (below_step (by repeat (first | (with_reducible first | exact HB.out | apply below_alloc | apply pw_below_drewN | apply below_drew1 | refine below_set ?_ (IsS110.ge HI713.out) | refine below_set ?_ GE714.out | refine below_set ?_ GE716.out) | exact HB.out)) hb); have n4_ := Aside0.mk (hbox); have n5_ := Aside0.mk ((by rw [hg]; exact (below_size (by repeat (first | (with_reducible first | exact HB.out | apply below_alloc | apply pw_below_drewN | apply below_drew1 | refine below_set ?_ (IsS110.ge HI713.out) | refine below_set ?_ GE714.out | refine below_set ?_ GE716.out) | exact HB.out))) : w.heap.size ≤ gb748)); have n6_ := Aside0.mk ((by rw [hg]; exact (below_size (by repeat (first | (with_reducible first | exact HB.out | apply below_alloc | apply pw_below_drewN | apply below_drew1 | refine below_set ?_ (IsS110.ge HI713.out) | refine below_set ?_ GE714.out | refine below_set ?_ GE716.out) | exact HB.out))) : w.heap.size ≤ gb748)); have n7_ := Aside0.mk ((by rw [hg]; exact Nat.ne_of_lt (blk_lt (g := gb714) (o := .cells #[.string x715000_2, .int .i64 x715001_2] 69 (0, 0)) (by (with_reducible repeat (first | refine blk_drewN ?_ _ | refine blk_drew ?_ | refine blk_alloc ?_ _)); exact BK714.out)) : gb714 ≠ gb748)); have n8_ := Aside0.mk ((by rw [hg]; exact Nat.ne_of_gt (blk_lt (g := gb714) (o := .cells #[.string x715000_2, .int .i64 x715001_2] 69 (0, 0)) (by (with_reducible repeat (first | refine blk_drewN ?_ _ | refine blk_drew ?_ | refine blk_alloc ?_ _)); exact BK714.out)) : gb748 ≠ gb714)); have n9_ := Aside0.mk ((by rw [hg]; exact Nat.ne_of_lt (blk_lt (g := gb716) (o := .cells #[.int .u8 ((rd_T71 l1 x41_2).f0), .int .i64 ((rd_T71 l1 x41_2).f1)] 71 (0, 0)) (by (with_reducible repeat (first | refine blk_drewN ?_ _ | refine blk_drew ?_ | refine blk_alloc ?_ _)); exact BK716.out)) : gb716 ≠ gb748)); have n10_ := Aside0.mk ((by rw [hg]; exact Nat.ne_of_gt (blk_lt (g := gb716) (o := .cells #[.int .u8 ((rd_T71 l1 x41_2).f0), .int .i64 ((rd_T71 l1 x41_2).f1)] 71 (0, 0)) (by (with_reducible repeat (first | refine blk_drewN ?_ _ | refine blk_drew ?_ | refine blk_alloc ?_ _)); exact BK716.out)) : gb748 ≠ gb716)); have n11_ := Aside0.mk ((by rw [hg]; exact Nat.ne_of_lt (IsS110.lt (show IsS110 w _ g713 x714000_2 x714001_2 from by repeat (first | (with_reducible first | exact HI713.out | apply IsS110.alloc | apply IsS110.drewN | apply IsS110.drew | apply IsS110.set_0 | apply IsS110.set_1 | refine IsS110.far ?_ NB713_714.out _ | refine IsS110.far ?_ NB713_716.out _) | exact HI713.out))) : g713 ≠ gb748)); have n12_ := Aside0.mk ((by rw [hg]; exact Nat.ne_of_gt (IsS110.lt (show IsS110 w _ g713 x714000_2 x714001_2 from by repeat (first | (with_reducible first | exact HI713.out | apply IsS110.alloc | apply IsS110.drewN | apply IsS110.drew | apply IsS110.set_0 | apply IsS110.set_1 | refine IsS110.far ?_ NB713_714.out _ | refine IsS110.far ?_ NB713_716.out _) | exact HI713.out))) : gb748 ≠ g713)); clear BK714; clear HI713; clear BK716; clear HB; have BK714 := n0_; have HI713 := n1_; have BK716 := n2_; have HB := n3_; have BK748 := n4_; have GW748 := n5_; have GE748 := n6_; have NB714_748 := n7_; have NB748_714 := n8_; have NB716_748 := n9_; have NB748_716 := n10_; have NB713_748 := n11_; have NB748_713 := n12_; clear n0_ n1_ n2_ n3_ n4_ n5_ n6_ n7_ n8_ n9_ n10_ n11_ n12_; clear hb hbox hg; have hnb106 := NB748_714.out; have hnc106 := NB714_748.out; have hnb107 := NB748_716.out; have hnc107 := NB716_748.out; have hnb108 := NB748_713.out; have hnc108 := NB713_748.out; have hcz109_0 : w105.cell? ⟨gb748, 0, none⟩ = some (.string (⟨#[]⟩ : ByteArray)) := (blk_cell BK748.out 0).trans rfl; have hcz109_1 : w105.cell? ⟨gb748, 1, none⟩ = some (.int .i64 0) := (blk_cell BK748.out 1).trans rfl; have hfz109_0 := blk_frozen BK748.out 0; have hfz109_1 := blk_frozen BK748.out 1))
                              have n0_ : Aside0 (((w105.setCell ⟨gb748, 0, none⟩ (.string t746)).setCell ⟨gb748, 1, none⟩ (.int .i64 t747)).heap[gb714]? = some (.cells #[.string x715000_2, .int .i64 x715001_2] 69 (0, 0))) := ⟨by (with_reducible repeat (first | refine blk_drewN ?_ _ | refine blk_drew ?_ | refine blk_alloc ?_ _)); refine blk_far ?_ NB714_748.out _; (with_reducible repeat (first | refine blk_drewN ?_ _ | refine blk_drew ?_ | refine blk_alloc ?_ _)); refine blk_far ?_ NB714_748.out _; (with_reducible repeat (first | refine blk_drewN ?_ _ | refine blk_drew ?_ | refine blk_alloc ?_ _)); exact BK714.out⟩
                              have n1_ : Aside0 (((w105.setCell ⟨gb748, 0, none⟩ (.string t746)).setCell ⟨gb748, 1, none⟩ (.int .i64 t747)).heap[gb716]? = some (.cells #[.int .u8 ((rd_T71 l1 x41_2).f0), .int .i64 ((rd_T71 l1 x41_2).f1)] 71 (0, 0))) := ⟨by (with_reducible repeat (first | refine blk_drewN ?_ _ | refine blk_drew ?_ | refine blk_alloc ?_ _)); refine blk_far ?_ NB716_748.out _; (with_reducible repeat (first | refine blk_drewN ?_ _ | refine blk_drew ?_ | refine blk_alloc ?_ _)); refine blk_far ?_ NB716_748.out _; (with_reducible repeat (first | refine blk_drewN ?_ _ | refine blk_drew ?_ | refine blk_alloc ?_ _)); exact BK716.out⟩
                              have n2_ : Aside0 (((w105.setCell ⟨gb748, 0, none⟩ (.string t746)).setCell ⟨gb748, 1, none⟩ (.int .i64 t747)).heap[gb748]? = some (.cells #[.string t746, .int .i64 t747] 69 (0, 0))) := ⟨by (with_reducible repeat (first | refine blk_drewN ?_ _ | refine blk_drew ?_ | refine blk_alloc ?_ _)); refine blk_put (cs := #[.string t746, .int .i64 0]) ?_ 1 _ rfl; (with_reducible repeat (first | refine blk_drewN ?_ _ | refine blk_drew ?_ | refine blk_alloc ?_ _)); refine blk_put (cs := #[.string (⟨#[]⟩ : ByteArray), .int .i64 0]) ?_ 0 _ rfl; (with_reducible repeat (first | refine blk_drewN ?_ _ | refine blk_drew ?_ | refine blk_alloc ?_ _)); exact BK748.out⟩
                              have n3_ : Aside0 (IsS110 w ((w105.setCell ⟨gb748, 0, none⟩ (.string t746)).setCell ⟨gb748, 1, none⟩ (.int .i64 t747)) g713 x714000_2 x714001_2) := ⟨by repeat (first | (with_reducible first | exact HI713.out | apply IsS110.alloc | apply IsS110.drewN | apply IsS110.drew | apply IsS110.set_0 | apply IsS110.set_1 | refine IsS110.far ?_ NB713_714.out _ | refine IsS110.far ?_ NB713_716.out _ | refine IsS110.far ?_ NB713_748.out _) | exact HI713.out)⟩
                              have n4_ : Aside0 (Below w.heap.size w ((w105.setCell ⟨gb748, 0, none⟩ (.string t746)).setCell ⟨gb748, 1, none⟩ (.int .i64 t747))) := ⟨by repeat (first | (with_reducible first | exact HB.out | apply below_alloc | apply pw_below_drewN | apply below_drew1 | refine below_set ?_ (IsS110.ge HI713.out) | refine below_set ?_ GE714.out | refine below_set ?_ GE716.out | refine below_set ?_ GE748.out) | exact HB.out)⟩
                              (try clear BK714)
                              (try clear BK716)
                              (try clear BK748)
                              (try clear HI713)
                              (try clear HB)
                              generalize ((w105.setCell ⟨gb748, 0, none⟩ (.string t746)).setCell ⟨gb748, 1, none⟩ (.int .i64 t747)) = w110 at n0_ n1_ n2_ n3_ n4_ ⊢
                              have BK714 := n0_
                              have BK716 := n1_
                              have BK748 := n2_
                              have HI713 := n3_
                              have HB := n4_
                              clear n0_ n1_ n2_ n3_ n4_
                              have n0_ := Aside0.mk (blk_drew BK714.out)
                              have n1_ := Aside0.mk (blk_drew BK716.out)
                              have n2_ := Aside0.mk (blk_drew BK748.out)
                              have n3_ := Aside0.mk (IsS110.drew HI713.out)
                              have n4_ := Aside0.mk (below_drew1 HB.out)
                              clear BK714
                              clear BK716
                              clear BK748
                              clear HI713
                              clear HB
                              have BK714 := n0_
                              have BK716 := n1_
                              have BK748 := n2_
                              have HI713 := n3_
                              have HB := n4_
                              clear n0_ n1_ n2_ n3_ n4_
                              refine start_ (n := 9) (S := fun w' => w'.cell? ⟨gb716, 0, none⟩ = some (.int .u8 ((rd_T71 l1 x41_2).f0)) ∧ w'.cell? ⟨gb716, 1, none⟩ = some (.int .i64 ((rd_T71 l1 x41_2).f1)) ∧ w'.cell? ⟨gb748, 0, none⟩ = some (.string t746) ∧ w'.cell? ⟨gb748, 1, none⟩ = some (.int .i64 t747)) (ds := []) #[false, false, false, false, false, false, false, false, false] (by kernel_rfl) rfl rfl ⟨(blk_cell BK716.out 0).trans rfl, (blk_cell BK716.out 1).trans rfl, (blk_cell BK748.out 0).trans rfl, (blk_cell BK748.out 1).trans rfl⟩ (fun hHeld => ?_); refine with_tabW dasdlaw01_WireReads.tab25 dasdlaw01_WireReads.bits25 (fun HT_ HW_ => ?_)
                              generalize w110.drew = w111 at BK714 BK716 BK748 HI713 HB hHeld ⊢
                              refine pure_ (i := 0) (N := some 109) (v := ?_) (a' := ?_) #[true, false, false, false, false, false, false, false, false] rfl rfl (any_of HT_.out (by kernel_rfl)) (fun _ _ _ h => h) (Or.inl ⟨by rfl, ?_⟩) ?_ ?_
                              rotate_left
                              · intro w'
                                go_simp
                                with_reducible rfl
                              rotate_left
                              · simp only [Act.put, List.setIfInBounds_toArray, List.set_cons_zero, List.set_cons_succ, i64_w, i32_w]
                                rfl
                              refine pure_ (i := 1) (N := some 110) (v := ?_) (a' := ?_) #[true, true, false, false, false, false, false, false, false] rfl rfl (any_of HT_.out (by kernel_rfl)) (fun _ _ _ h => h) (Or.inl ⟨by rfl, ?_⟩) ?_ ?_
                              rotate_left
                              · intro w'
                                go_simp
                                with_reducible rfl
                              rotate_left
                              · simp only [Act.put, List.setIfInBounds_toArray, List.set_cons_zero, List.set_cons_succ, i64_w, i32_w]
                                rfl
                              refine pure_ (i := 4) (N := some 113) (v := ?_) (a' := ?_) #[true, true, false, false, true, false, false, false, false] rfl rfl (any_of HT_.out (by kernel_rfl)) (fun _ _ _ h => h) (Or.inl ⟨by rfl, ?_⟩) ?_ ?_
                              rotate_left
                              · intro w'
                                go_simp
                                with_reducible rfl
                              rotate_left
                              · simp only [Act.put, List.setIfInBounds_toArray, List.set_cons_zero, List.set_cons_succ, i64_w, i32_w]
                                rfl
                              refine take_ (i := 2) (N := some 111) (v := ?_) (a' := ?_) #[true, true, true, false, true, false, false, false, false] rfl rfl (take_ofW HT_.out HW_.out (by kernel_rfl)) (fun _ _ _ h => h) (Or.inl ⟨by rfl, ?_⟩) hHeld ?_ ?_
                              rotate_left
                              · rintro w' ⟨s0, s1, s2, s3⟩
                                go_simp
                                with_reducible rfl
                              rotate_left
                              · simp only [Act.put, List.setIfInBounds_toArray, List.set_cons_zero, List.set_cons_succ, i64_w, i32_w]
                                rfl
                              refine take_ (i := 6) (N := some 115) (v := ?_) (a' := ?_) #[true, true, true, false, true, false, true, false, false] rfl rfl (take_ofW HT_.out HW_.out (by kernel_rfl)) (fun _ _ _ h => h) (Or.inl ⟨by rfl, ?_⟩) hHeld ?_ ?_
                              rotate_left
                              · rintro w' ⟨s0, s1, s2, s3⟩
                                go_simp
                                with_reducible rfl
                              rotate_left
                              · simp only [Act.put, List.setIfInBounds_toArray, List.set_cons_zero, List.set_cons_succ, i64_w, i32_w]
                                rfl
                              refine one_ (i := 3) (N := some 112) #[true, true, true, true, true, false, true, false, false] rfl rfl (one_of HT_.out (by kernel_rfl)) (by decide) (fun K hK => ?_)
                              refine goes_ Try.func63 (by kernel_rfl) rfl #[.pointer (some ⟨g713, 0, none⟩), .int .i64 ((rd_T71 l1 x41_2).f1)] (by rfl) rfl rfl (by (try simp only [List.map_toArray, List.map_cons, List.map_nil]); first | done | rfl | (simp only [List.length_drop, List.length_take]; rfl)) ?_
                              with_reducible refine (wire_Reader_Count.calls g713 x714000_2 x714001_2 ((rd_T71 l1 x41_2).f1) t749 t750 t751 w _ ?side1 ?side2 A98.out).mono ?_
                              (case side1 => repeat (first | (with_reducible first | exact HI713.out | apply IsS110.alloc | apply IsS110.drewN | apply IsS110.drew | apply IsS110.set_0 | apply IsS110.set_1 | refine IsS110.far ?_ NB713_714.out _ | refine IsS110.far ?_ NB713_716.out _ | refine IsS110.far ?_ NB713_748.out _) | exact HI713.out))
                              (case side2 => repeat (first | (with_reducible first | exact HB.out | apply below_alloc | apply pw_below_drewN | apply below_drew1 | refine below_set ?_ (IsS110.ge HI713.out) | refine below_set ?_ GE714.out | refine below_set ?_ GE716.out | refine below_set ?_ GE748.out) | exact HB.out))
                              rintro e w112 ⟨rfl, hi, hb, hk⟩
                              refine ⟨_, rfl, ?_⟩
                              have n0_ := Aside0.mk (KeepBut.blk hk (g' := gb714) (o := .cells #[.string x715000_2, .int .i64 x715001_2] 69 (0, 0)) (by (with_reducible repeat (first | refine blk_drewN ?_ _ | refine blk_drew ?_ | refine blk_alloc ?_ _)); exact BK714.out) NB714_713.out (by simp))
                              have n1_ := Aside0.mk (KeepBut.blk hk (g' := gb716) (o := .cells #[.int .u8 ((rd_T71 l1 x41_2).f0), .int .i64 ((rd_T71 l1 x41_2).f1)] 71 (0, 0)) (by (with_reducible repeat (first | refine blk_drewN ?_ _ | refine blk_drew ?_ | refine blk_alloc ?_ _)); exact BK716.out) NB716_713.out (by simp))
                              have n2_ := Aside0.mk (KeepBut.blk hk (g' := gb748) (o := .cells #[.string t746, .int .i64 t747] 69 (0, 0)) (by (with_reducible repeat (first | refine blk_drewN ?_ _ | refine blk_drew ?_ | refine blk_alloc ?_ _)); exact BK748.out) NB748_713.out (by simp))
                              have n3_ := Aside0.mk (hb)
                              have n4_ := Aside0.mk (hi)
                              clear BK714
                              clear BK716
                              clear BK748
                              clear HB
                              clear HI713
                              have BK714 := n0_
                              have BK716 := n1_
                              have BK748 := n2_
                              have HB := n3_
                              have HI713 := n4_
                              clear n0_ n1_ n2_ n3_ n4_
                              (try clear hb)
                              (try clear hb2)
                              (try clear hk)
                              (try clear hi)
                              refine hK.out _ _ ⟨(blk_cell BK716.out 0).trans rfl, (blk_cell BK716.out 1).trans rfl, (blk_cell BK748.out 0).trans rfl, (blk_cell BK748.out 1).trans rfl⟩ (fun hHeld => ?_)
                              clear hK K
                              refine norm_ (a' := ?_) ?_ ?_
                              rotate_left
                              · show Act.put _ (some 112) _ = _
                                simp only [Act.put, List.setIfInBounds_toArray, List.set_cons_zero, List.set_cons_succ, i64_w, i32_w]
                                rfl
                              refine pure_ (i := 5) (N := some 114) (v := ?_) (a' := ?_) #[true, true, true, true, true, true, true, false, false] rfl rfl (any_of HT_.out (by kernel_rfl)) (fun _ _ _ h => h) (Or.inl ⟨by rfl, ?_⟩) ?_ ?_
                              rotate_left
                              · intro w'
                                go_simp
                                with_reducible rfl
                              rotate_left
                              · simp only [Act.put, List.setIfInBounds_toArray, List.set_cons_zero, List.set_cons_succ, i64_w, i32_w]
                                rfl
                              refine pure_ (i := 7) (N := some 9) (v := ?_) (a' := ?_) #[true, true, true, true, true, true, true, true, false] rfl rfl (any_of HT_.out (by kernel_rfl)) (fun _ _ _ h => h) (Or.inl ⟨by rfl, ?_⟩) ?_ ?_
                              rotate_left
                              · intro w'
                                go_simp
                                with_reducible rfl
                              rotate_left
                              · simp only [Act.put, List.setIfInBounds_toArray, List.set_cons_zero, List.set_cons_succ, i64_w, i32_w]
                                rfl
                              refine one_ (i := 8) (N := none) #[true, true, true, true, true, true, true, true, true] rfl rfl (one_of HT_.out (by kernel_rfl)) (by decide) (fun K hK => ?_)
                              have hs113 : w112.cell? ⟨gb714, 0, none⟩ = some (.string x715000_2) := (blk_cell BK714.out 0).trans rfl
                              have hfs113 := blk_frozen BK714.out 0
                              have hns113_1 := NB716_714.out
                              have hns113_2 := NB748_714.out
                              have hms113_1 := NB714_716.out
                              have hms113_2 := NB714_748.out
                              have hs114 : w112.cell? ⟨gb714, 1, none⟩ = some (.int .i64 x715001_2) := (blk_cell BK714.out 1).trans rfl
                              have hfs114 := blk_frozen BK714.out 1
                              have hns114_1 := NB716_714.out
                              have hns114_2 := NB748_714.out
                              have hms114_1 := NB714_716.out
                              have hms114_2 := NB714_748.out
                              refine skip_ (w1 := ?_) (by rfl) rfl ?_ ?_
                              rotate_left
                              · go_simp
                                rfl
                              refine hK.out _ _ ⟨((cell_far (p := ⟨gb714, _, none⟩) NB716_714.out _).trans (((cell_far (p := ⟨gb714, _, none⟩) NB716_714.out _).trans (hHeld.1)))), ((cell_far (p := ⟨gb714, _, none⟩) NB716_714.out _).trans (((cell_far (p := ⟨gb714, _, none⟩) NB716_714.out _).trans (hHeld.2.1)))), ((cell_far (p := ⟨gb714, _, none⟩) NB748_714.out _).trans (((cell_far (p := ⟨gb714, _, none⟩) NB748_714.out _).trans (hHeld.2.2.1)))), ((cell_far (p := ⟨gb714, _, none⟩) NB748_714.out _).trans (((cell_far (p := ⟨gb714, _, none⟩) NB748_714.out _).trans (hHeld.2.2.2))))⟩ (fun hHeld => ?_)
                              clear hK K
                              refine done_ (done_of HT_.out (by kernel_rfl)) ?_
                              try go_wp2
                              go_meet
                              case rel => exact ⟨_, ((t749 == t745)), (t750), (t751), (t746), (t747), (by first | rfl | (simp; done) | (simp [*]; done)), H', ⟨by have := HJ2.out; have := HK2.out; first | omega | exact Nat.le_refl _⟩, ⟨by (with_reducible repeat (first | refine blk_drewN ?_ _ | refine blk_drew ?_ | refine blk_alloc ?_ _)); refine blk_put (cs := #[.string t746, .int .i64 x715001_2]) ?_ 1 _ rfl; (with_reducible repeat (first | refine blk_drewN ?_ _ | refine blk_drew ?_ | refine blk_alloc ?_ _)); refine blk_put (cs := #[.string x715000_2, .int .i64 x715001_2]) ?_ 0 _ rfl; (with_reducible repeat (first | refine blk_drewN ?_ _ | refine blk_drew ?_ | refine blk_alloc ?_ _)); exact BK714.out⟩, ⟨by (with_reducible repeat (first | refine blk_drewN ?_ _ | refine blk_drew ?_ | refine blk_alloc ?_ _)); refine blk_far ?_ NB716_714.out _; (with_reducible repeat (first | refine blk_drewN ?_ _ | refine blk_drew ?_ | refine blk_alloc ?_ _)); refine blk_far ?_ NB716_714.out _; (with_reducible repeat (first | refine blk_drewN ?_ _ | refine blk_drew ?_ | refine blk_alloc ?_ _)); exact BK716.out⟩, ⟨by repeat (first | (with_reducible first | exact HI713.out | apply IsS110.alloc | apply IsS110.drewN | apply IsS110.drew | apply IsS110.set_0 | apply IsS110.set_1 | refine IsS110.far ?_ NB713_714.out _ | refine IsS110.far ?_ NB713_716.out _ | refine IsS110.far ?_ NB713_748.out _) | exact HI713.out)⟩, ⟨by repeat (first | (with_reducible first | exact HB.out | apply below_alloc | apply pw_below_drewN | apply below_drew1 | refine below_set ?_ (IsS110.ge HI713.out) | refine below_set ?_ GE714.out | refine below_set ?_ GE716.out | refine below_set ?_ GE748.out) | exact HB.out)⟩⟩
                            · rw [if_neg c96] at H
                              have c96b0 : ((Int.tmod ((rd_T71 l1 x41_2).f0) 5) == 4) = false := beq_eq_false_iff_ne.mpr c96
                              have c96b1 : ((Int.tmod ((rd_T71 l1 x41_2).f0) 5) != 4) = true := bne_iff_ne.mpr c96
                              have H' := Aside0.mk H
                              clear H
                              go_wp2
                              go_meet
                              case rel => exact ⟨_, (false), (x714000_2), (x714001_2), (x715000_2), (x715001_2), (by first | rfl | (simp; done) | (simp [*]; done)), H', ⟨by have := HJ2.out; have := HK2.out; first | omega | exact Nat.le_refl _⟩, ⟨by (with_reducible repeat (first | refine blk_drewN ?_ _ | refine blk_drew ?_ | refine blk_alloc ?_ _)); refine blk_far ?_ NB714_716.out _; (with_reducible repeat (first | refine blk_drewN ?_ _ | refine blk_drew ?_ | refine blk_alloc ?_ _)); refine blk_far ?_ NB714_716.out _; (with_reducible repeat (first | refine blk_drewN ?_ _ | refine blk_drew ?_ | refine blk_alloc ?_ _)); exact BK714.out⟩, ⟨by (with_reducible repeat (first | refine blk_drewN ?_ _ | refine blk_drew ?_ | refine blk_alloc ?_ _)); refine blk_put (cs := #[.int .u8 ((rd_T71 l1 x41_2).f0), .int .i64 0]) ?_ 1 _ rfl; (with_reducible repeat (first | refine blk_drewN ?_ _ | refine blk_drew ?_ | refine blk_alloc ?_ _)); refine blk_put (cs := #[.int .u8 0, .int .i64 0]) ?_ 0 _ rfl; (with_reducible repeat (first | refine blk_drewN ?_ _ | refine blk_drew ?_ | refine blk_alloc ?_ _)); exact BK716.out⟩, ⟨by repeat (first | (with_reducible first | exact HI713.out | apply IsS110.alloc | apply IsS110.drewN | apply IsS110.drew | apply IsS110.set_0 | apply IsS110.set_1 | refine IsS110.far ?_ NB713_714.out _ | refine IsS110.far ?_ NB713_716.out _) | exact HI713.out)⟩, ⟨by repeat (first | (with_reducible first | exact HB.out | apply below_alloc | apply pw_below_drewN | apply below_drew1 | refine below_set ?_ (IsS110.ge HI713.out) | refine below_set ?_ GE714.out | refine below_set ?_ GE716.out) | exact HB.out)⟩⟩
                  case rest =>
                    clear HC21
                    try clear c1
                    try clear p2
                    try clear c4
                    try clear c6
                    try clear c7
                    try clear c8
                    try clear c9
                    try clear c10
                    try clear c43
                    try clear c43b0
                    try clear c43b1
                    try clear c60
                    try clear c60b0
                    try clear c60b1
                    try clear c63
                    try clear c64
                    try clear c68
                    try clear c69
                    try clear c70
                    try clear c74
                    try clear c75
                    try clear c76
                    try clear c77
                    try clear c77b0
                    try clear c77b1
                    try clear c80
                    try clear c81
                    try clear c83
                    try clear c87
                    try clear c88
                    try clear c89
                    try clear c96
                    try clear c96b0
                    try clear c96b1
                    try clear c99
                    try clear c100
                    try clear c102
                    try clear c106
                    try clear c107
                    try clear c108
                    try clear hcz101_0
                    try clear hcz101_1
                    try clear hcz103_0
                    try clear hcz103_1
                    try clear hcz109_0
                    try clear hcz109_1
                    try clear hcz65_0
                    try clear hcz65_1
                    try clear hcz71_0
                    try clear hcz71_1
                    try clear hcz82_0
                    try clear hcz82_1
                    try clear hcz84_0
                    try clear hcz84_1
                    try clear hcz90_0
                    try clear hcz90_1
                    try clear hfz101_0
                    try clear hfz101_1
                    try clear hfz103_0
                    try clear hfz103_1
                    try clear hfz109_0
                    try clear hfz109_1
                    try clear hfz65_0
                    try clear hfz65_1
                    try clear hfz71_0
                    try clear hfz71_1
                    try clear hfz82_0
                    try clear hfz82_1
                    try clear hfz84_0
                    try clear hfz84_1
                    try clear hfz90_0
                    try clear hfz90_1
                    obtain ⟨kq, x9_20, x714000_20, x714001_20, x715000_20, x715001_20, rfl, HA, HJ20, BK714, BK716, HI713, HB⟩ := hcut
                    cases kq with
                    | zero => exact absurd HA.out (by simp [dasdlaw01_WireReads.j2])
                    | succ kj20 =>
                      have H := HA.out
                      clear HA
                      simp only [dasdlaw01_WireReads.j2] at H
                      by_cases c115 : x9_20 = true
                      · subst c115
                        have H1 : ((wire_Reader_Left.f x714000_20 x714001_20).bind fun bt752 => (if bt752.1 = (x715000_20.size : Int) then ((wire_Reader_Rest.f bt752.2.1 bt752.2.2).bind fun bt755 => (if bt755.1.toList = x715000_20.toList then ((wire_Reader_End.f bt755.2.1 bt755.2.2).bind fun bt758 => ((dasdref01_End.f x715000_20 x715001_20).bind fun t761 => (if bt758.1 = t761 then (dasdlaw01_WireReads.l0 kj20 l1 (l1.length : Int) (wrap64 (x41_2 + 1)) bt758.2.1 bt758.2.2 x715000_20 x715001_20) else (some false)))) else (some false))) else (some false))) = some r := by rw [if_pos rfl] at H; exact H
                        clear H
                        have H := H1
                        clear H1
                        replace H := Option.bind_eq_some_iff.mp H
                        obtain ⟨⟨t752, t753, t754⟩, A1160, H⟩ := H
                        replace H : (if t752 = (x715000_20.size : Int) then ((wire_Reader_Rest.f t753 t754).bind fun bt755 => (if bt755.1.toList = x715000_20.toList then ((wire_Reader_End.f bt755.2.1 bt755.2.2).bind fun bt758 => ((dasdref01_End.f x715000_20 x715001_20).bind fun t761 => (if bt758.1 = t761 then (dasdlaw01_WireReads.l0 kj20 l1 (l1.length : Int) (wrap64 (x41_2 + 1)) bt758.2.1 bt758.2.2 x715000_20 x715001_20) else (some false)))) else (some false))) else (some false)) = some r := H
                        have A116 := Aside0.mk A1160
                        clear A1160
                        by_cases c117 : t752 = (x715000_20.size : Int)
                        · rw [if_pos c117] at H
                          have c117b0 : (t752 == (x715000_20.size : Int)) = true := beq_iff_eq.mpr c117
                          have c117b1 : (t752 != (x715000_20.size : Int)) = false := bne_eq_false_iff_eq.mpr c117
                          clear c117
                          replace H := Option.bind_eq_some_iff.mp H
                          obtain ⟨⟨t755, t756, t757⟩, A1180, H⟩ := H
                          replace H : (if t755.toList = x715000_20.toList then ((wire_Reader_End.f t756 t757).bind fun bt758 => ((dasdref01_End.f x715000_20 x715001_20).bind fun t761 => (if bt758.1 = t761 then (dasdlaw01_WireReads.l0 kj20 l1 (l1.length : Int) (wrap64 (x41_2 + 1)) bt758.2.1 bt758.2.2 x715000_20 x715001_20) else (some false)))) else (some false)) = some r := H
                          have A118 := Aside0.mk A1180
                          clear A1180
                          by_cases c119 : t755.toList = x715000_20.toList
                          · rw [if_pos c119] at H
                            have c119b0 : (t755.toList == x715000_20.toList) = true := beq_iff_eq.mpr c119
                            have c119b1 : (t755.toList != x715000_20.toList) = false := bne_eq_false_iff_eq.mpr c119
                            clear c119
                            replace H := Option.bind_eq_some_iff.mp H
                            obtain ⟨⟨t758, t759, t760⟩, A1200, H⟩ := H
                            replace H : ((dasdref01_End.f x715000_20 x715001_20).bind fun t761 => (if t758 = t761 then (dasdlaw01_WireReads.l0 kj20 l1 (l1.length : Int) (wrap64 (x41_2 + 1)) t759 t760 x715000_20 x715001_20) else (some false))) = some r := H
                            have A120 := Aside0.mk A1200
                            clear A1200
                            replace H := Option.bind_eq_some_iff.mp H
                            obtain ⟨t761, A1210, H⟩ := H
                            replace H : (if t758 = t761 then (dasdlaw01_WireReads.l0 kj20 l1 (l1.length : Int) (wrap64 (x41_2 + 1)) t759 t760 x715000_20 x715001_20) else (some false)) = some r := H
                            have A121 := Aside0.mk A1210
                            clear A1210
                            by_cases c122 : t758 = t761
                            · rw [if_pos c122] at H
                              have c122b0 : (t758 == t761) = true := beq_iff_eq.mpr c122
                              have c122b1 : (t758 != t761) = false := bne_eq_false_iff_eq.mpr c122
                              clear c122
                              have H' := Aside0.mk H
                              clear H
                              try go_wp2
                              have n0_ := Aside0.mk (blk_drew BK714.out)
                              have n1_ := Aside0.mk (blk_drew BK716.out)
                              have n2_ := Aside0.mk (IsS110.drew HI713.out)
                              have n3_ := Aside0.mk (below_drew1 HB.out)
                              clear BK714
                              clear BK716
                              clear HI713
                              clear HB
                              have BK714 := n0_
                              have BK716 := n1_
                              have HI713 := n2_
                              have HB := n3_
                              clear n0_ n1_ n2_ n3_
                              refine start_ (n := 24) (S := fun w' => w'.cell? ⟨gb714, 0, none⟩ = some (.string x715000_20) ∧ w'.cell? ⟨gb714, 1, none⟩ = some (.int .i64 x715001_20)) (ds := []) #[false, false, false, false, false, false, false, false, false, false, false, false, false, false, false, false, false, false, false, false, false, false, false, false] (by kernel_rfl) rfl rfl ⟨(blk_cell BK714.out 0).trans rfl, (blk_cell BK714.out 1).trans rfl⟩ (fun hHeld => ?_); refine with_tabW dasdlaw01_WireReads.tab26 dasdlaw01_WireReads.bits26 (fun HT_ HW_ => ?_)
                              generalize wc.drew = w123 at BK714 BK716 HI713 HB hHeld ⊢
                              refine pure_ (i := 0) (N := some 116) (v := ?_) (a' := ?_) #[true, false, false, false, false, false, false, false, false, false, false, false, false, false, false, false, false, false, false, false, false, false, false, false] rfl rfl (any_of HT_.out (by kernel_rfl)) (fun _ _ _ h => h) (Or.inl ⟨by rfl, ?_⟩) ?_ ?_
                              rotate_left
                              · intro w'
                                go_simp
                                with_reducible rfl
                              rotate_left
                              · simp only [Act.put, List.setIfInBounds_toArray, List.set_cons_zero, List.set_cons_succ, i64_w, i32_w]
                                rfl
                              refine pure_ (i := 1) (N := some 117) (v := ?_) (a' := ?_) #[true, true, false, false, false, false, false, false, false, false, false, false, false, false, false, false, false, false, false, false, false, false, false, false] rfl rfl (any_of HT_.out (by kernel_rfl)) (fun _ _ _ h => h) (Or.inl ⟨by rfl, ?_⟩) ?_ ?_
                              rotate_left
                              · intro w'
                                go_simp
                                with_reducible rfl
                              rotate_left
                              · simp only [Act.put, List.setIfInBounds_toArray, List.set_cons_zero, List.set_cons_succ, i64_w, i32_w]
                                rfl
                              refine pure_ (i := 2) (N := some 118) (v := ?_) (a' := ?_) #[true, true, true, false, false, false, false, false, false, false, false, false, false, false, false, false, false, false, false, false, false, false, false, false] rfl rfl (any_of HT_.out (by kernel_rfl)) (fun _ _ _ h => h) (Or.inl ⟨by rfl, ?_⟩) ?_ ?_
                              rotate_left
                              · intro w'
                                go_simp
                                with_reducible rfl
                              rotate_left
                              · simp only [Act.put, List.setIfInBounds_toArray, List.set_cons_zero, List.set_cons_succ, i64_w, i32_w]
                                rfl
                              refine pure_ (i := 3) (N := some 119) (v := ?_) (a' := ?_) #[true, true, true, true, false, false, false, false, false, false, false, false, false, false, false, false, false, false, false, false, false, false, false, false] rfl rfl (any_of HT_.out (by kernel_rfl)) (fun _ _ _ h => h) (Or.inl ⟨by rfl, ?_⟩) ?_ ?_
                              rotate_left
                              · intro w'
                                go_simp
                                with_reducible rfl
                              rotate_left
                              · simp only [Act.put, List.setIfInBounds_toArray, List.set_cons_zero, List.set_cons_succ, i64_w, i32_w]
                                rfl
                              refine pure_ (i := 5) (N := some 121) (v := ?_) (a' := ?_) #[true, true, true, true, false, true, false, false, false, false, false, false, false, false, false, false, false, false, false, false, false, false, false, false] rfl rfl (any_of HT_.out (by kernel_rfl)) (fun _ _ _ h => h) (Or.inl ⟨by rfl, ?_⟩) ?_ ?_
                              rotate_left
                              · intro w'
                                go_simp
                                with_reducible rfl
                              rotate_left
                              · simp only [Act.put, List.setIfInBounds_toArray, List.set_cons_zero, List.set_cons_succ, i64_w, i32_w]
                                rfl
                              refine take_ (i := 6) (N := some 122) (v := ?_) (a' := ?_) #[true, true, true, true, false, true, true, false, false, false, false, false, false, false, false, false, false, false, false, false, false, false, false, false] rfl rfl (take_ofW HT_.out HW_.out (by kernel_rfl)) (fun _ _ _ h => h) (Or.inl ⟨by rfl, ?_⟩) hHeld ?_ ?_
                              rotate_left
                              · rintro w' ⟨s0, s1⟩
                                go_simp
                                with_reducible rfl
                              rotate_left
                              · simp only [Act.put, List.setIfInBounds_toArray, List.set_cons_zero, List.set_cons_succ, i64_w, i32_w]
                                rfl
                              refine pure_ (i := 7) (N := some 123) (v := ?_) (a' := ?_) #[true, true, true, true, false, true, true, true, false, false, false, false, false, false, false, false, false, false, false, false, false, false, false, false] rfl rfl (any_of HT_.out (by kernel_rfl)) (fun _ _ _ h => h) (Or.inl ⟨by rfl, ?_⟩) ?_ ?_
                              rotate_left
                              · intro w'
                                go_simp
                                with_reducible rfl
                              rotate_left
                              · simp only [Act.put, List.setIfInBounds_toArray, List.set_cons_zero, List.set_cons_succ, i64_w, i32_w]
                                rfl
                              refine one_ (i := 4) (N := some 120) #[true, true, true, true, true, true, true, true, false, false, false, false, false, false, false, false, false, false, false, false, false, false, false, false] rfl rfl (one_of HT_.out (by kernel_rfl)) (by decide) (fun K hK => ?_)
                              refine goes_ Try.func78 (by kernel_rfl) rfl #[.pointer (some ⟨g713, 0, none⟩)] (by rfl) rfl rfl (by (try simp only [List.map_toArray, List.map_cons, List.map_nil]); first | done | rfl | (simp only [List.length_drop, List.length_take]; rfl)) ?_
                              with_reducible refine (wire_Reader_Left.calls g713 x714000_20 x714001_20 t752 t753 t754 w _ ?side1 ?side2 A116.out).mono ?_
                              (case side1 => repeat (first | (with_reducible first | exact HI713.out | apply IsS110.alloc | apply IsS110.drewN | apply IsS110.drew | apply IsS110.set_0 | apply IsS110.set_1 | refine IsS110.far ?_ NB713_714.out _ | refine IsS110.far ?_ NB713_716.out _) | exact HI713.out))
                              (case side2 => repeat (first | (with_reducible first | exact HB.out | apply below_alloc | apply pw_below_drewN | apply below_drew1 | refine below_set ?_ (IsS110.ge HI713.out) | refine below_set ?_ GE714.out | refine below_set ?_ GE716.out) | exact HB.out))
                              rintro e w124 ⟨rfl, hi, hb, hk⟩
                              refine ⟨_, rfl, ?_⟩
                              have n0_ := Aside0.mk (KeepBut.blk hk (g' := gb714) (o := .cells #[.string x715000_20, .int .i64 x715001_20] 69 (0, 0)) (by (with_reducible repeat (first | refine blk_drewN ?_ _ | refine blk_drew ?_ | refine blk_alloc ?_ _)); exact BK714.out) NB714_713.out (by simp))
                              have n1_ := Aside0.mk (KeepBut.blk hk (g' := gb716) (o := .cells #[.int .u8 ((rd_T71 l1 x41_2).f0), .int .i64 ((rd_T71 l1 x41_2).f1)] 71 (0, 0)) (by (with_reducible repeat (first | refine blk_drewN ?_ _ | refine blk_drew ?_ | refine blk_alloc ?_ _)); exact BK716.out) NB716_713.out (by simp))
                              have n2_ := Aside0.mk (hb)
                              have n3_ := Aside0.mk (hi)
                              clear BK714
                              clear BK716
                              clear HB
                              clear HI713
                              have BK714 := n0_
                              have BK716 := n1_
                              have HB := n2_
                              have HI713 := n3_
                              clear n0_ n1_ n2_ n3_
                              (try clear hb)
                              (try clear hb2)
                              (try clear hk)
                              (try clear hi)
                              refine hK.out _ _ ⟨(blk_cell BK714.out 0).trans rfl, (blk_cell BK714.out 1).trans rfl⟩ (fun hHeld => ?_)
                              clear hK K
                              refine norm_ (a' := ?_) ?_ ?_
                              rotate_left
                              · show Act.put _ (some 120) _ = _
                                simp only [Act.put, List.setIfInBounds_toArray, List.set_cons_zero, List.set_cons_succ, i64_w, i32_w]
                                rfl
                              refine pure_ (i := 8) (N := some 124) (v := ?_) (a' := ?_) #[true, true, true, true, true, true, true, true, true, false, false, false, false, false, false, false, false, false, false, false, false, false, false, false] rfl rfl (any_of HT_.out (by kernel_rfl)) (fun _ _ _ h => h) (Or.inl ⟨by rfl, ?_⟩) ?_ ?_
                              rotate_left
                              · intro w'
                                go_simp
                                with_reducible rfl
                              rotate_left
                              · simp only [Act.put, List.setIfInBounds_toArray, List.set_cons_zero, List.set_cons_succ, i64_w, i32_w]
                                rfl
                              refine pure_ (i := 9) (N := some 125) (v := ?_) (a' := ?_) #[true, true, true, true, true, true, true, true, true, true, false, false, false, false, false, false, false, false, false, false, false, false, false, false] rfl rfl (any_of HT_.out (by kernel_rfl)) (fun _ _ _ h => h) (Or.inl ⟨by rfl, ?_⟩) ?_ ?_
                              rotate_left
                              · intro w'
                                go_simp
                                with_reducible rfl
                              rotate_left
                              · simp only [Act.put, List.setIfInBounds_toArray, List.set_cons_zero, List.set_cons_succ, i64_w, i32_w]
                                rfl
                              refine pure_ (i := 10) (N := some 126) (v := ?_) (a' := ?_) #[true, true, true, true, true, true, true, true, true, true, true, false, false, false, false, false, false, false, false, false, false, false, false, false] rfl rfl (any_of HT_.out (by kernel_rfl)) (fun _ _ _ h => h) (Or.inl ⟨by rfl, ?_⟩) ?_ ?_
                              rotate_left
                              · intro w'
                                go_simp
                                with_reducible rfl
                              rotate_left
                              · simp only [Act.put, List.setIfInBounds_toArray, List.set_cons_zero, List.set_cons_succ, i64_w, i32_w]
                                rfl
                              refine pure_ (i := 11) (N := some 127) (v := ?_) (a' := ?_) #[true, true, true, true, true, true, true, true, true, true, true, true, false, false, false, false, false, false, false, false, false, false, false, false] rfl rfl (any_of HT_.out (by kernel_rfl)) (fun _ _ _ h => h) (Or.inl ⟨by rfl, ?_⟩) ?_ ?_
                              rotate_left
                              · intro w'
                                go_simp
                                with_reducible rfl
                              rotate_left
                              · simp only [Act.put, List.setIfInBounds_toArray, List.set_cons_zero, List.set_cons_succ, i64_w, i32_w]
                                rfl
                              refine pure_ (i := 13) (N := some 129) (v := ?_) (a' := ?_) #[true, true, true, true, true, true, true, true, true, true, true, true, false, true, false, false, false, false, false, false, false, false, false, false] rfl rfl (any_of HT_.out (by kernel_rfl)) (fun _ _ _ h => h) (Or.inl ⟨by rfl, ?_⟩) ?_ ?_
                              rotate_left
                              · intro w'
                                go_simp
                                with_reducible rfl
                              rotate_left
                              · simp only [Act.put, List.setIfInBounds_toArray, List.set_cons_zero, List.set_cons_succ, i64_w, i32_w]
                                rfl
                              refine take_ (i := 14) (N := some 130) (v := ?_) (a' := ?_) #[true, true, true, true, true, true, true, true, true, true, true, true, false, true, true, false, false, false, false, false, false, false, false, false] rfl rfl (take_ofW HT_.out HW_.out (by kernel_rfl)) (fun _ _ _ h => h) (Or.inl ⟨by rfl, ?_⟩) hHeld ?_ ?_
                              rotate_left
                              · rintro w' ⟨s0, s1⟩
                                go_simp
                                with_reducible rfl
                              rotate_left
                              · simp only [Act.put, List.setIfInBounds_toArray, List.set_cons_zero, List.set_cons_succ, i64_w, i32_w]
                                rfl
                              refine one_ (i := 12) (N := some 128) #[true, true, true, true, true, true, true, true, true, true, true, true, true, true, true, false, false, false, false, false, false, false, false, false] rfl rfl (one_of HT_.out (by kernel_rfl)) (by decide) (fun K hK => ?_)
                              refine goes_ Try.func79 (by kernel_rfl) rfl #[.pointer (some ⟨g713, 0, none⟩)] (by rfl) rfl rfl (by (try simp only [List.map_toArray, List.map_cons, List.map_nil]); first | done | rfl | (simp only [List.length_drop, List.length_take]; rfl)) ?_
                              with_reducible refine (wire_Reader_Rest.calls g713 t753 t754 t755 t756 t757 w _ ?side1 ?side2 A118.out).mono ?_
                              (case side1 => repeat (first | (with_reducible first | exact HI713.out | apply IsS110.alloc | apply IsS110.drewN | apply IsS110.drew | apply IsS110.set_0 | apply IsS110.set_1 | refine IsS110.far ?_ NB713_714.out _ | refine IsS110.far ?_ NB713_716.out _) | exact HI713.out))
                              (case side2 => repeat (first | (with_reducible first | exact HB.out | apply below_alloc | apply pw_below_drewN | apply below_drew1 | refine below_set ?_ (IsS110.ge HI713.out) | refine below_set ?_ GE714.out | refine below_set ?_ GE716.out) | exact HB.out))
                              rintro e w125 ⟨rfl, hi, hb, hk⟩
                              refine ⟨_, rfl, ?_⟩
                              have n0_ := Aside0.mk (KeepBut.blk hk (g' := gb714) (o := .cells #[.string x715000_20, .int .i64 x715001_20] 69 (0, 0)) (by (with_reducible repeat (first | refine blk_drewN ?_ _ | refine blk_drew ?_ | refine blk_alloc ?_ _)); exact BK714.out) NB714_713.out (by simp))
                              have n1_ := Aside0.mk (KeepBut.blk hk (g' := gb716) (o := .cells #[.int .u8 ((rd_T71 l1 x41_2).f0), .int .i64 ((rd_T71 l1 x41_2).f1)] 71 (0, 0)) (by (with_reducible repeat (first | refine blk_drewN ?_ _ | refine blk_drew ?_ | refine blk_alloc ?_ _)); exact BK716.out) NB716_713.out (by simp))
                              have n2_ := Aside0.mk (hb)
                              have n3_ := Aside0.mk (hi)
                              clear BK714
                              clear BK716
                              clear HB
                              clear HI713
                              have BK714 := n0_
                              have BK716 := n1_
                              have HB := n2_
                              have HI713 := n3_
                              clear n0_ n1_ n2_ n3_
                              (try clear hb)
                              (try clear hb2)
                              (try clear hk)
                              (try clear hi)
                              refine hK.out _ _ ⟨(blk_cell BK714.out 0).trans rfl, (blk_cell BK714.out 1).trans rfl⟩ (fun hHeld => ?_)
                              clear hK K
                              refine norm_ (a' := ?_) ?_ ?_
                              rotate_left
                              · show Act.put _ (some 128) _ = _
                                simp only [Act.put, List.setIfInBounds_toArray, List.set_cons_zero, List.set_cons_succ, i64_w, i32_w]
                                rfl
                              refine pure_ (i := 15) (N := some 131) (v := ?_) (a' := ?_) #[true, true, true, true, true, true, true, true, true, true, true, true, true, true, true, true, false, false, false, false, false, false, false, false] rfl rfl (any_of HT_.out (by kernel_rfl)) (fun _ _ _ h => h) (Or.inl ⟨by rfl, ?_⟩) ?_ ?_
                              rotate_left
                              · intro w'
                                go_simp
                                with_reducible rfl
                              rotate_left
                              · simp only [Act.put, List.setIfInBounds_toArray, List.set_cons_zero, List.set_cons_succ, i64_w, i32_w]
                                rfl
                              refine pure_ (i := 16) (N := some 132) (v := ?_) (a' := ?_) #[true, true, true, true, true, true, true, true, true, true, true, true, true, true, true, true, true, false, false, false, false, false, false, false] rfl rfl (any_of HT_.out (by kernel_rfl)) (fun _ _ _ h => h) (Or.inl ⟨by rfl, ?_⟩) ?_ ?_
                              rotate_left
                              · intro w'
                                go_simp
                                with_reducible rfl
                              rotate_left
                              · simp only [Act.put, List.setIfInBounds_toArray, List.set_cons_zero, List.set_cons_succ, i64_w, i32_w]
                                rfl
                              refine pure_ (i := 17) (N := some 133) (v := ?_) (a' := ?_) #[true, true, true, true, true, true, true, true, true, true, true, true, true, true, true, true, true, true, false, false, false, false, false, false] rfl rfl (any_of HT_.out (by kernel_rfl)) (fun _ _ _ h => h) (Or.inl ⟨by rfl, ?_⟩) ?_ ?_
                              rotate_left
                              · intro w'
                                go_simp
                                with_reducible rfl
                              rotate_left
                              · simp only [Act.put, List.setIfInBounds_toArray, List.set_cons_zero, List.set_cons_succ, i64_w, i32_w]
                                rfl
                              refine pure_ (i := 18) (N := some 134) (v := ?_) (a' := ?_) #[true, true, true, true, true, true, true, true, true, true, true, true, true, true, true, true, true, true, true, false, false, false, false, false] rfl rfl (any_of HT_.out (by kernel_rfl)) (fun _ _ _ h => h) (Or.inl ⟨by rfl, ?_⟩) ?_ ?_
                              rotate_left
                              · intro w'
                                go_simp
                                with_reducible rfl
                              rotate_left
                              · simp only [Act.put, List.setIfInBounds_toArray, List.set_cons_zero, List.set_cons_succ, i64_w, i32_w]
                                rfl
                              refine take_ (i := 20) (N := some 136) (v := ?_) (a' := ?_) #[true, true, true, true, true, true, true, true, true, true, true, true, true, true, true, true, true, true, true, false, true, false, false, false] rfl rfl (take_ofW HT_.out HW_.out (by kernel_rfl)) (fun _ _ _ h => h) (Or.inl ⟨by rfl, ?_⟩) hHeld ?_ ?_
                              rotate_left
                              · rintro w' ⟨s0, s1⟩
                                go_simp
                                with_reducible rfl
                              rotate_left
                              · simp only [Act.put, List.setIfInBounds_toArray, List.set_cons_zero, List.set_cons_succ, i64_w, i32_w]
                                rfl
                              refine one_ (i := 19) (N := some 135) #[true, true, true, true, true, true, true, true, true, true, true, true, true, true, true, true, true, true, true, true, true, false, false, false] rfl rfl (one_of HT_.out (by kernel_rfl)) (by decide) (fun K hK => ?_)
                              refine goes_ Try.func65 (by kernel_rfl) rfl #[.pointer (some ⟨g713, 0, none⟩)] (by rfl) rfl rfl (by (try simp only [List.map_toArray, List.map_cons, List.map_nil]); first | done | rfl | (simp only [List.length_drop, List.length_take]; rfl)) ?_
                              with_reducible refine (wire_Reader_End.calls g713 t756 t757 t758 t759 t760 w _ ?side1 ?side2 A120.out).mono ?_
                              (case side1 => repeat (first | (with_reducible first | exact HI713.out | apply IsS110.alloc | apply IsS110.drewN | apply IsS110.drew | apply IsS110.set_0 | apply IsS110.set_1 | refine IsS110.far ?_ NB713_714.out _ | refine IsS110.far ?_ NB713_716.out _) | exact HI713.out))
                              (case side2 => repeat (first | (with_reducible first | exact HB.out | apply below_alloc | apply pw_below_drewN | apply below_drew1 | refine below_set ?_ (IsS110.ge HI713.out) | refine below_set ?_ GE714.out | refine below_set ?_ GE716.out) | exact HB.out))
                              rintro e w126 ⟨rfl, hi, hb, hk⟩
                              refine ⟨_, rfl, ?_⟩
                              have n0_ := Aside0.mk (KeepBut.blk hk (g' := gb714) (o := .cells #[.string x715000_20, .int .i64 x715001_20] 69 (0, 0)) (by (with_reducible repeat (first | refine blk_drewN ?_ _ | refine blk_drew ?_ | refine blk_alloc ?_ _)); exact BK714.out) NB714_713.out (by simp))
                              have n1_ := Aside0.mk (KeepBut.blk hk (g' := gb716) (o := .cells #[.int .u8 ((rd_T71 l1 x41_2).f0), .int .i64 ((rd_T71 l1 x41_2).f1)] 71 (0, 0)) (by (with_reducible repeat (first | refine blk_drewN ?_ _ | refine blk_drew ?_ | refine blk_alloc ?_ _)); exact BK716.out) NB716_713.out (by simp))
                              have n2_ := Aside0.mk (hb)
                              have n3_ := Aside0.mk (hi)
                              clear BK714
                              clear BK716
                              clear HB
                              clear HI713
                              have BK714 := n0_
                              have BK716 := n1_
                              have HB := n2_
                              have HI713 := n3_
                              clear n0_ n1_ n2_ n3_
                              (try clear hb)
                              (try clear hb2)
                              (try clear hk)
                              (try clear hi)
                              refine hK.out _ _ ⟨(blk_cell BK714.out 0).trans rfl, (blk_cell BK714.out 1).trans rfl⟩ (fun hHeld => ?_)
                              clear hK K
                              refine norm_ (a' := ?_) ?_ ?_
                              rotate_left
                              · show Act.put _ (some 135) _ = _
                                simp only [Act.put, List.setIfInBounds_toArray, List.set_cons_zero, List.set_cons_succ, i64_w, i32_w]
                                rfl
                              refine one_ (i := 21) (N := some 137) #[true, true, true, true, true, true, true, true, true, true, true, true, true, true, true, true, true, true, true, true, true, true, false, false] rfl rfl (one_of HT_.out (by kernel_rfl)) (by decide) (fun K hK => ?_)
                              refine goes_ Try.func80 (by kernel_rfl) rfl #[.agg #[.string x715000_20, .int .i64 x715001_20]] (by rfl) rfl rfl (by (try simp only [List.map_toArray, List.map_cons, List.map_nil]); first | done | rfl | (simp only [List.length_drop, List.length_take]; rfl)) ?_
                              with_reducible refine (dasdref01_End.calls x715000_20 x715001_20 t761 _ A121.out).mono ?_
                              rintro e w127 ⟨rfl, hb⟩
                              refine ⟨_, rfl, ?_⟩
                              have n0_ := Aside0.mk (blk_below (g := gb714) (o := .cells #[.string x715000_20, .int .i64 x715001_20] 69 (0, 0)) (by (with_reducible repeat (first | refine blk_drewN ?_ _ | refine blk_drew ?_ | refine blk_alloc ?_ _)); exact BK714.out) hb)
                              have n1_ := Aside0.mk (blk_below (g := gb716) (o := .cells #[.int .u8 ((rd_T71 l1 x41_2).f0), .int .i64 ((rd_T71 l1 x41_2).f1)] 71 (0, 0)) (by (with_reducible repeat (first | refine blk_drewN ?_ _ | refine blk_drew ?_ | refine blk_alloc ?_ _)); exact BK716.out) hb)
                              have n2_ := Aside0.mk (IsS110.below (by repeat (first | (with_reducible first | exact HI713.out | apply IsS110.alloc | apply IsS110.drewN | apply IsS110.drew | apply IsS110.set_0 | apply IsS110.set_1 | refine IsS110.far ?_ NB713_714.out _ | refine IsS110.far ?_ NB713_716.out _) | exact HI713.out)) hb)
                              have n3_ := Aside0.mk (below_step (by repeat (first | (with_reducible first | exact HB.out | apply below_alloc | apply pw_below_drewN | apply below_drew1 | refine below_set ?_ (IsS110.ge HI713.out) | refine below_set ?_ GE714.out | refine below_set ?_ GE716.out) | exact HB.out)) hb)
                              clear BK714
                              clear BK716
                              clear HI713
                              clear HB
                              have BK714 := n0_
                              have BK716 := n1_
                              have HI713 := n2_
                              have HB := n3_
                              clear n0_ n1_ n2_ n3_
                              (try clear hb)
                              (try clear hb2)
                              (try clear hk)
                              (try clear hi)
                              refine hK.out _ _ ⟨(blk_cell BK714.out 0).trans rfl, (blk_cell BK714.out 1).trans rfl⟩ (fun hHeld => ?_)
                              clear hK K
                              refine norm_ (a' := ?_) ?_ ?_
                              rotate_left
                              · show Act.put _ (some 137) _ = _
                                simp only [Act.put, List.setIfInBounds_toArray, List.set_cons_zero, List.set_cons_succ, i64_w, i32_w]
                                rfl
                              refine pure_ (i := 22) (N := some 138) (v := ?_) (a' := ?_) #[true, true, true, true, true, true, true, true, true, true, true, true, true, true, true, true, true, true, true, true, true, true, true, false] rfl rfl (any_of HT_.out (by kernel_rfl)) (fun _ _ _ h => h) (Or.inl ⟨by rfl, ?_⟩) ?_ ?_
                              rotate_left
                              · intro w'
                                go_simp
                                with_reducible rfl
                              rotate_left
                              · simp only [Act.put, List.setIfInBounds_toArray, List.set_cons_zero, List.set_cons_succ, i64_w, i32_w]
                                rfl
                              refine pure_ (i := 23) (N := some 139) (v := ?_) (a' := ?_) #[true, true, true, true, true, true, true, true, true, true, true, true, true, true, true, true, true, true, true, true, true, true, true, true] rfl rfl (any_of HT_.out (by kernel_rfl)) (fun _ _ _ h => h) (Or.inl ⟨by rfl, ?_⟩) ?_ ?_
                              rotate_left
                              · intro w'
                                go_simp
                                with_reducible rfl
                              rotate_left
                              · simp only [Act.put, List.setIfInBounds_toArray, List.set_cons_zero, List.set_cons_succ, i64_w, i32_w]
                                rfl
                              refine done_ (done_of HT_.out (by kernel_rfl)) ?_
                              try go_wp2
                              go_roundg kj20
                              case measure => have := HJ2.out; have := HK2.out; have := HJ20.out; omega
                              case rel => exact ⟨(wrap64 (x41_2 + 1)), (t759), (t760), (x715000_20), (x715001_20), (by first | rfl | (simp; done) | (simp [*]; done)), H', ⟨by have := HJ2.out; have := HK2.out; have := HJ20.out; omega⟩, ⟨by (with_reducible repeat (first | refine blk_drewN ?_ _ | refine blk_drew ?_ | refine blk_alloc ?_ _)); exact BK714.out⟩, ⟨by repeat (first | (with_reducible first | exact HI713.out | apply IsS110.alloc | apply IsS110.drewN | apply IsS110.drew | apply IsS110.set_0 | apply IsS110.set_1 | refine IsS110.far ?_ NB713_714.out _ | refine IsS110.far ?_ NB713_716.out _) | exact HI713.out)⟩, ⟨by repeat (first | (with_reducible first | exact HB.out | apply below_alloc | apply pw_below_drewN | apply below_drew1 | refine below_set ?_ (IsS110.ge HI713.out) | refine below_set ?_ GE714.out | refine below_set ?_ GE716.out) | exact HB.out)⟩⟩
                            · rw [if_neg c122] at H
                              have c122b0 : (t758 == t761) = false := beq_eq_false_iff_ne.mpr c122
                              have c122b1 : (t758 != t761) = true := bne_iff_ne.mpr c122
                              obtain rfl := Option.some.inj H
                              try go_wp2
                              have n0_ := Aside0.mk (blk_drew BK714.out)
                              have n1_ := Aside0.mk (blk_drew BK716.out)
                              have n2_ := Aside0.mk (IsS110.drew HI713.out)
                              have n3_ := Aside0.mk (below_drew1 HB.out)
                              clear BK714
                              clear BK716
                              clear HI713
                              clear HB
                              have BK714 := n0_
                              have BK716 := n1_
                              have HI713 := n2_
                              have HB := n3_
                              clear n0_ n1_ n2_ n3_
                              refine start_ (n := 24) (S := fun w' => w'.cell? ⟨gb714, 0, none⟩ = some (.string x715000_20) ∧ w'.cell? ⟨gb714, 1, none⟩ = some (.int .i64 x715001_20)) (ds := []) #[false, false, false, false, false, false, false, false, false, false, false, false, false, false, false, false, false, false, false, false, false, false, false, false] (by kernel_rfl) rfl rfl ⟨(blk_cell BK714.out 0).trans rfl, (blk_cell BK714.out 1).trans rfl⟩ (fun hHeld => ?_); refine with_tabW dasdlaw01_WireReads.tab26 dasdlaw01_WireReads.bits26 (fun HT_ HW_ => ?_)
                              generalize wc.drew = w128 at BK714 BK716 HI713 HB hHeld ⊢
                              refine pure_ (i := 0) (N := some 116) (v := ?_) (a' := ?_) #[true, false, false, false, false, false, false, false, false, false, false, false, false, false, false, false, false, false, false, false, false, false, false, false] rfl rfl (any_of HT_.out (by kernel_rfl)) (fun _ _ _ h => h) (Or.inl ⟨by rfl, ?_⟩) ?_ ?_
                              rotate_left
                              · intro w'
                                go_simp
                                with_reducible rfl
                              rotate_left
                              · simp only [Act.put, List.setIfInBounds_toArray, List.set_cons_zero, List.set_cons_succ, i64_w, i32_w]
                                rfl
                              refine pure_ (i := 1) (N := some 117) (v := ?_) (a' := ?_) #[true, true, false, false, false, false, false, false, false, false, false, false, false, false, false, false, false, false, false, false, false, false, false, false] rfl rfl (any_of HT_.out (by kernel_rfl)) (fun _ _ _ h => h) (Or.inl ⟨by rfl, ?_⟩) ?_ ?_
                              rotate_left
                              · intro w'
                                go_simp
                                with_reducible rfl
                              rotate_left
                              · simp only [Act.put, List.setIfInBounds_toArray, List.set_cons_zero, List.set_cons_succ, i64_w, i32_w]
                                rfl
                              refine pure_ (i := 2) (N := some 118) (v := ?_) (a' := ?_) #[true, true, true, false, false, false, false, false, false, false, false, false, false, false, false, false, false, false, false, false, false, false, false, false] rfl rfl (any_of HT_.out (by kernel_rfl)) (fun _ _ _ h => h) (Or.inl ⟨by rfl, ?_⟩) ?_ ?_
                              rotate_left
                              · intro w'
                                go_simp
                                with_reducible rfl
                              rotate_left
                              · simp only [Act.put, List.setIfInBounds_toArray, List.set_cons_zero, List.set_cons_succ, i64_w, i32_w]
                                rfl
                              refine pure_ (i := 3) (N := some 119) (v := ?_) (a' := ?_) #[true, true, true, true, false, false, false, false, false, false, false, false, false, false, false, false, false, false, false, false, false, false, false, false] rfl rfl (any_of HT_.out (by kernel_rfl)) (fun _ _ _ h => h) (Or.inl ⟨by rfl, ?_⟩) ?_ ?_
                              rotate_left
                              · intro w'
                                go_simp
                                with_reducible rfl
                              rotate_left
                              · simp only [Act.put, List.setIfInBounds_toArray, List.set_cons_zero, List.set_cons_succ, i64_w, i32_w]
                                rfl
                              refine pure_ (i := 5) (N := some 121) (v := ?_) (a' := ?_) #[true, true, true, true, false, true, false, false, false, false, false, false, false, false, false, false, false, false, false, false, false, false, false, false] rfl rfl (any_of HT_.out (by kernel_rfl)) (fun _ _ _ h => h) (Or.inl ⟨by rfl, ?_⟩) ?_ ?_
                              rotate_left
                              · intro w'
                                go_simp
                                with_reducible rfl
                              rotate_left
                              · simp only [Act.put, List.setIfInBounds_toArray, List.set_cons_zero, List.set_cons_succ, i64_w, i32_w]
                                rfl
                              refine take_ (i := 6) (N := some 122) (v := ?_) (a' := ?_) #[true, true, true, true, false, true, true, false, false, false, false, false, false, false, false, false, false, false, false, false, false, false, false, false] rfl rfl (take_ofW HT_.out HW_.out (by kernel_rfl)) (fun _ _ _ h => h) (Or.inl ⟨by rfl, ?_⟩) hHeld ?_ ?_
                              rotate_left
                              · rintro w' ⟨s0, s1⟩
                                go_simp
                                with_reducible rfl
                              rotate_left
                              · simp only [Act.put, List.setIfInBounds_toArray, List.set_cons_zero, List.set_cons_succ, i64_w, i32_w]
                                rfl
                              refine pure_ (i := 7) (N := some 123) (v := ?_) (a' := ?_) #[true, true, true, true, false, true, true, true, false, false, false, false, false, false, false, false, false, false, false, false, false, false, false, false] rfl rfl (any_of HT_.out (by kernel_rfl)) (fun _ _ _ h => h) (Or.inl ⟨by rfl, ?_⟩) ?_ ?_
                              rotate_left
                              · intro w'
                                go_simp
                                with_reducible rfl
                              rotate_left
                              · simp only [Act.put, List.setIfInBounds_toArray, List.set_cons_zero, List.set_cons_succ, i64_w, i32_w]
                                rfl
                              refine one_ (i := 4) (N := some 120) #[true, true, true, true, true, true, true, true, false, false, false, false, false, false, false, false, false, false, false, false, false, false, false, false] rfl rfl (one_of HT_.out (by kernel_rfl)) (by decide) (fun K hK => ?_)
                              refine goes_ Try.func78 (by kernel_rfl) rfl #[.pointer (some ⟨g713, 0, none⟩)] (by rfl) rfl rfl (by (try simp only [List.map_toArray, List.map_cons, List.map_nil]); first | done | rfl | (simp only [List.length_drop, List.length_take]; rfl)) ?_
                              with_reducible refine (wire_Reader_Left.calls g713 x714000_20 x714001_20 t752 t753 t754 w _ ?side1 ?side2 A116.out).mono ?_
                              (case side1 => repeat (first | (with_reducible first | exact HI713.out | apply IsS110.alloc | apply IsS110.drewN | apply IsS110.drew | apply IsS110.set_0 | apply IsS110.set_1 | refine IsS110.far ?_ NB713_714.out _ | refine IsS110.far ?_ NB713_716.out _) | exact HI713.out))
                              (case side2 => repeat (first | (with_reducible first | exact HB.out | apply below_alloc | apply pw_below_drewN | apply below_drew1 | refine below_set ?_ (IsS110.ge HI713.out) | refine below_set ?_ GE714.out | refine below_set ?_ GE716.out) | exact HB.out))
                              rintro e w129 ⟨rfl, hi, hb, hk⟩
                              refine ⟨_, rfl, ?_⟩
                              have n0_ := Aside0.mk (KeepBut.blk hk (g' := gb714) (o := .cells #[.string x715000_20, .int .i64 x715001_20] 69 (0, 0)) (by (with_reducible repeat (first | refine blk_drewN ?_ _ | refine blk_drew ?_ | refine blk_alloc ?_ _)); exact BK714.out) NB714_713.out (by simp))
                              have n1_ := Aside0.mk (KeepBut.blk hk (g' := gb716) (o := .cells #[.int .u8 ((rd_T71 l1 x41_2).f0), .int .i64 ((rd_T71 l1 x41_2).f1)] 71 (0, 0)) (by (with_reducible repeat (first | refine blk_drewN ?_ _ | refine blk_drew ?_ | refine blk_alloc ?_ _)); exact BK716.out) NB716_713.out (by simp))
                              have n2_ := Aside0.mk (hb)
                              have n3_ := Aside0.mk (hi)
                              clear BK714
                              clear BK716
                              clear HB
                              clear HI713
                              have BK714 := n0_
                              have BK716 := n1_
                              have HB := n2_
                              have HI713 := n3_
                              clear n0_ n1_ n2_ n3_
                              (try clear hb)
                              (try clear hb2)
                              (try clear hk)
                              (try clear hi)
                              refine hK.out _ _ ⟨(blk_cell BK714.out 0).trans rfl, (blk_cell BK714.out 1).trans rfl⟩ (fun hHeld => ?_)
                              clear hK K
                              refine norm_ (a' := ?_) ?_ ?_
                              rotate_left
                              · show Act.put _ (some 120) _ = _
                                simp only [Act.put, List.setIfInBounds_toArray, List.set_cons_zero, List.set_cons_succ, i64_w, i32_w]
                                rfl
                              refine pure_ (i := 8) (N := some 124) (v := ?_) (a' := ?_) #[true, true, true, true, true, true, true, true, true, false, false, false, false, false, false, false, false, false, false, false, false, false, false, false] rfl rfl (any_of HT_.out (by kernel_rfl)) (fun _ _ _ h => h) (Or.inl ⟨by rfl, ?_⟩) ?_ ?_
                              rotate_left
                              · intro w'
                                go_simp
                                with_reducible rfl
                              rotate_left
                              · simp only [Act.put, List.setIfInBounds_toArray, List.set_cons_zero, List.set_cons_succ, i64_w, i32_w]
                                rfl
                              refine pure_ (i := 9) (N := some 125) (v := ?_) (a' := ?_) #[true, true, true, true, true, true, true, true, true, true, false, false, false, false, false, false, false, false, false, false, false, false, false, false] rfl rfl (any_of HT_.out (by kernel_rfl)) (fun _ _ _ h => h) (Or.inl ⟨by rfl, ?_⟩) ?_ ?_
                              rotate_left
                              · intro w'
                                go_simp
                                with_reducible rfl
                              rotate_left
                              · simp only [Act.put, List.setIfInBounds_toArray, List.set_cons_zero, List.set_cons_succ, i64_w, i32_w]
                                rfl
                              refine pure_ (i := 10) (N := some 126) (v := ?_) (a' := ?_) #[true, true, true, true, true, true, true, true, true, true, true, false, false, false, false, false, false, false, false, false, false, false, false, false] rfl rfl (any_of HT_.out (by kernel_rfl)) (fun _ _ _ h => h) (Or.inl ⟨by rfl, ?_⟩) ?_ ?_
                              rotate_left
                              · intro w'
                                go_simp
                                with_reducible rfl
                              rotate_left
                              · simp only [Act.put, List.setIfInBounds_toArray, List.set_cons_zero, List.set_cons_succ, i64_w, i32_w]
                                rfl
                              refine pure_ (i := 11) (N := some 127) (v := ?_) (a' := ?_) #[true, true, true, true, true, true, true, true, true, true, true, true, false, false, false, false, false, false, false, false, false, false, false, false] rfl rfl (any_of HT_.out (by kernel_rfl)) (fun _ _ _ h => h) (Or.inl ⟨by rfl, ?_⟩) ?_ ?_
                              rotate_left
                              · intro w'
                                go_simp
                                with_reducible rfl
                              rotate_left
                              · simp only [Act.put, List.setIfInBounds_toArray, List.set_cons_zero, List.set_cons_succ, i64_w, i32_w]
                                rfl
                              refine pure_ (i := 13) (N := some 129) (v := ?_) (a' := ?_) #[true, true, true, true, true, true, true, true, true, true, true, true, false, true, false, false, false, false, false, false, false, false, false, false] rfl rfl (any_of HT_.out (by kernel_rfl)) (fun _ _ _ h => h) (Or.inl ⟨by rfl, ?_⟩) ?_ ?_
                              rotate_left
                              · intro w'
                                go_simp
                                with_reducible rfl
                              rotate_left
                              · simp only [Act.put, List.setIfInBounds_toArray, List.set_cons_zero, List.set_cons_succ, i64_w, i32_w]
                                rfl
                              refine take_ (i := 14) (N := some 130) (v := ?_) (a' := ?_) #[true, true, true, true, true, true, true, true, true, true, true, true, false, true, true, false, false, false, false, false, false, false, false, false] rfl rfl (take_ofW HT_.out HW_.out (by kernel_rfl)) (fun _ _ _ h => h) (Or.inl ⟨by rfl, ?_⟩) hHeld ?_ ?_
                              rotate_left
                              · rintro w' ⟨s0, s1⟩
                                go_simp
                                with_reducible rfl
                              rotate_left
                              · simp only [Act.put, List.setIfInBounds_toArray, List.set_cons_zero, List.set_cons_succ, i64_w, i32_w]
                                rfl
                              refine one_ (i := 12) (N := some 128) #[true, true, true, true, true, true, true, true, true, true, true, true, true, true, true, false, false, false, false, false, false, false, false, false] rfl rfl (one_of HT_.out (by kernel_rfl)) (by decide) (fun K hK => ?_)
                              refine goes_ Try.func79 (by kernel_rfl) rfl #[.pointer (some ⟨g713, 0, none⟩)] (by rfl) rfl rfl (by (try simp only [List.map_toArray, List.map_cons, List.map_nil]); first | done | rfl | (simp only [List.length_drop, List.length_take]; rfl)) ?_
                              with_reducible refine (wire_Reader_Rest.calls g713 t753 t754 t755 t756 t757 w _ ?side1 ?side2 A118.out).mono ?_
                              (case side1 => repeat (first | (with_reducible first | exact HI713.out | apply IsS110.alloc | apply IsS110.drewN | apply IsS110.drew | apply IsS110.set_0 | apply IsS110.set_1 | refine IsS110.far ?_ NB713_714.out _ | refine IsS110.far ?_ NB713_716.out _) | exact HI713.out))
                              (case side2 => repeat (first | (with_reducible first | exact HB.out | apply below_alloc | apply pw_below_drewN | apply below_drew1 | refine below_set ?_ (IsS110.ge HI713.out) | refine below_set ?_ GE714.out | refine below_set ?_ GE716.out) | exact HB.out))
                              rintro e w130 ⟨rfl, hi, hb, hk⟩
                              refine ⟨_, rfl, ?_⟩
                              have n0_ := Aside0.mk (KeepBut.blk hk (g' := gb714) (o := .cells #[.string x715000_20, .int .i64 x715001_20] 69 (0, 0)) (by (with_reducible repeat (first | refine blk_drewN ?_ _ | refine blk_drew ?_ | refine blk_alloc ?_ _)); exact BK714.out) NB714_713.out (by simp))
                              have n1_ := Aside0.mk (KeepBut.blk hk (g' := gb716) (o := .cells #[.int .u8 ((rd_T71 l1 x41_2).f0), .int .i64 ((rd_T71 l1 x41_2).f1)] 71 (0, 0)) (by (with_reducible repeat (first | refine blk_drewN ?_ _ | refine blk_drew ?_ | refine blk_alloc ?_ _)); exact BK716.out) NB716_713.out (by simp))
                              have n2_ := Aside0.mk (hb)
                              have n3_ := Aside0.mk (hi)
                              clear BK714
                              clear BK716
                              clear HB
                              clear HI713
                              have BK714 := n0_
                              have BK716 := n1_
                              have HB := n2_
                              have HI713 := n3_
                              clear n0_ n1_ n2_ n3_
                              (try clear hb)
                              (try clear hb2)
                              (try clear hk)
                              (try clear hi)
                              refine hK.out _ _ ⟨(blk_cell BK714.out 0).trans rfl, (blk_cell BK714.out 1).trans rfl⟩ (fun hHeld => ?_)
                              clear hK K
                              refine norm_ (a' := ?_) ?_ ?_
                              rotate_left
                              · show Act.put _ (some 128) _ = _
                                simp only [Act.put, List.setIfInBounds_toArray, List.set_cons_zero, List.set_cons_succ, i64_w, i32_w]
                                rfl
                              refine pure_ (i := 15) (N := some 131) (v := ?_) (a' := ?_) #[true, true, true, true, true, true, true, true, true, true, true, true, true, true, true, true, false, false, false, false, false, false, false, false] rfl rfl (any_of HT_.out (by kernel_rfl)) (fun _ _ _ h => h) (Or.inl ⟨by rfl, ?_⟩) ?_ ?_
                              rotate_left
                              · intro w'
                                go_simp
                                with_reducible rfl
                              rotate_left
                              · simp only [Act.put, List.setIfInBounds_toArray, List.set_cons_zero, List.set_cons_succ, i64_w, i32_w]
                                rfl
                              refine pure_ (i := 16) (N := some 132) (v := ?_) (a' := ?_) #[true, true, true, true, true, true, true, true, true, true, true, true, true, true, true, true, true, false, false, false, false, false, false, false] rfl rfl (any_of HT_.out (by kernel_rfl)) (fun _ _ _ h => h) (Or.inl ⟨by rfl, ?_⟩) ?_ ?_
                              rotate_left
                              · intro w'
                                go_simp
                                with_reducible rfl
                              rotate_left
                              · simp only [Act.put, List.setIfInBounds_toArray, List.set_cons_zero, List.set_cons_succ, i64_w, i32_w]
                                rfl
                              refine pure_ (i := 17) (N := some 133) (v := ?_) (a' := ?_) #[true, true, true, true, true, true, true, true, true, true, true, true, true, true, true, true, true, true, false, false, false, false, false, false] rfl rfl (any_of HT_.out (by kernel_rfl)) (fun _ _ _ h => h) (Or.inl ⟨by rfl, ?_⟩) ?_ ?_
                              rotate_left
                              · intro w'
                                go_simp
                                with_reducible rfl
                              rotate_left
                              · simp only [Act.put, List.setIfInBounds_toArray, List.set_cons_zero, List.set_cons_succ, i64_w, i32_w]
                                rfl
                              refine pure_ (i := 18) (N := some 134) (v := ?_) (a' := ?_) #[true, true, true, true, true, true, true, true, true, true, true, true, true, true, true, true, true, true, true, false, false, false, false, false] rfl rfl (any_of HT_.out (by kernel_rfl)) (fun _ _ _ h => h) (Or.inl ⟨by rfl, ?_⟩) ?_ ?_
                              rotate_left
                              · intro w'
                                go_simp
                                with_reducible rfl
                              rotate_left
                              · simp only [Act.put, List.setIfInBounds_toArray, List.set_cons_zero, List.set_cons_succ, i64_w, i32_w]
                                rfl
                              refine take_ (i := 20) (N := some 136) (v := ?_) (a' := ?_) #[true, true, true, true, true, true, true, true, true, true, true, true, true, true, true, true, true, true, true, false, true, false, false, false] rfl rfl (take_ofW HT_.out HW_.out (by kernel_rfl)) (fun _ _ _ h => h) (Or.inl ⟨by rfl, ?_⟩) hHeld ?_ ?_
                              rotate_left
                              · rintro w' ⟨s0, s1⟩
                                go_simp
                                with_reducible rfl
                              rotate_left
                              · simp only [Act.put, List.setIfInBounds_toArray, List.set_cons_zero, List.set_cons_succ, i64_w, i32_w]
                                rfl
                              refine one_ (i := 19) (N := some 135) #[true, true, true, true, true, true, true, true, true, true, true, true, true, true, true, true, true, true, true, true, true, false, false, false] rfl rfl (one_of HT_.out (by kernel_rfl)) (by decide) (fun K hK => ?_)
                              refine goes_ Try.func65 (by kernel_rfl) rfl #[.pointer (some ⟨g713, 0, none⟩)] (by rfl) rfl rfl (by (try simp only [List.map_toArray, List.map_cons, List.map_nil]); first | done | rfl | (simp only [List.length_drop, List.length_take]; rfl)) ?_
                              with_reducible refine (wire_Reader_End.calls g713 t756 t757 t758 t759 t760 w _ ?side1 ?side2 A120.out).mono ?_
                              (case side1 => repeat (first | (with_reducible first | exact HI713.out | apply IsS110.alloc | apply IsS110.drewN | apply IsS110.drew | apply IsS110.set_0 | apply IsS110.set_1 | refine IsS110.far ?_ NB713_714.out _ | refine IsS110.far ?_ NB713_716.out _) | exact HI713.out))
                              (case side2 => repeat (first | (with_reducible first | exact HB.out | apply below_alloc | apply pw_below_drewN | apply below_drew1 | refine below_set ?_ (IsS110.ge HI713.out) | refine below_set ?_ GE714.out | refine below_set ?_ GE716.out) | exact HB.out))
                              rintro e w131 ⟨rfl, hi, hb, hk⟩
                              refine ⟨_, rfl, ?_⟩
                              have n0_ := Aside0.mk (KeepBut.blk hk (g' := gb714) (o := .cells #[.string x715000_20, .int .i64 x715001_20] 69 (0, 0)) (by (with_reducible repeat (first | refine blk_drewN ?_ _ | refine blk_drew ?_ | refine blk_alloc ?_ _)); exact BK714.out) NB714_713.out (by simp))
                              have n1_ := Aside0.mk (KeepBut.blk hk (g' := gb716) (o := .cells #[.int .u8 ((rd_T71 l1 x41_2).f0), .int .i64 ((rd_T71 l1 x41_2).f1)] 71 (0, 0)) (by (with_reducible repeat (first | refine blk_drewN ?_ _ | refine blk_drew ?_ | refine blk_alloc ?_ _)); exact BK716.out) NB716_713.out (by simp))
                              have n2_ := Aside0.mk (hb)
                              have n3_ := Aside0.mk (hi)
                              clear BK714
                              clear BK716
                              clear HB
                              clear HI713
                              have BK714 := n0_
                              have BK716 := n1_
                              have HB := n2_
                              have HI713 := n3_
                              clear n0_ n1_ n2_ n3_
                              (try clear hb)
                              (try clear hb2)
                              (try clear hk)
                              (try clear hi)
                              refine hK.out _ _ ⟨(blk_cell BK714.out 0).trans rfl, (blk_cell BK714.out 1).trans rfl⟩ (fun hHeld => ?_)
                              clear hK K
                              refine norm_ (a' := ?_) ?_ ?_
                              rotate_left
                              · show Act.put _ (some 135) _ = _
                                simp only [Act.put, List.setIfInBounds_toArray, List.set_cons_zero, List.set_cons_succ, i64_w, i32_w]
                                rfl
                              refine one_ (i := 21) (N := some 137) #[true, true, true, true, true, true, true, true, true, true, true, true, true, true, true, true, true, true, true, true, true, true, false, false] rfl rfl (one_of HT_.out (by kernel_rfl)) (by decide) (fun K hK => ?_)
                              refine goes_ Try.func80 (by kernel_rfl) rfl #[.agg #[.string x715000_20, .int .i64 x715001_20]] (by rfl) rfl rfl (by (try simp only [List.map_toArray, List.map_cons, List.map_nil]); first | done | rfl | (simp only [List.length_drop, List.length_take]; rfl)) ?_
                              with_reducible refine (dasdref01_End.calls x715000_20 x715001_20 t761 _ A121.out).mono ?_
                              rintro e w132 ⟨rfl, hb⟩
                              refine ⟨_, rfl, ?_⟩
                              have n0_ := Aside0.mk (blk_below (g := gb714) (o := .cells #[.string x715000_20, .int .i64 x715001_20] 69 (0, 0)) (by (with_reducible repeat (first | refine blk_drewN ?_ _ | refine blk_drew ?_ | refine blk_alloc ?_ _)); exact BK714.out) hb)
                              have n1_ := Aside0.mk (blk_below (g := gb716) (o := .cells #[.int .u8 ((rd_T71 l1 x41_2).f0), .int .i64 ((rd_T71 l1 x41_2).f1)] 71 (0, 0)) (by (with_reducible repeat (first | refine blk_drewN ?_ _ | refine blk_drew ?_ | refine blk_alloc ?_ _)); exact BK716.out) hb)
                              have n2_ := Aside0.mk (IsS110.below (by repeat (first | (with_reducible first | exact HI713.out | apply IsS110.alloc | apply IsS110.drewN | apply IsS110.drew | apply IsS110.set_0 | apply IsS110.set_1 | refine IsS110.far ?_ NB713_714.out _ | refine IsS110.far ?_ NB713_716.out _) | exact HI713.out)) hb)
                              have n3_ := Aside0.mk (below_step (by repeat (first | (with_reducible first | exact HB.out | apply below_alloc | apply pw_below_drewN | apply below_drew1 | refine below_set ?_ (IsS110.ge HI713.out) | refine below_set ?_ GE714.out | refine below_set ?_ GE716.out) | exact HB.out)) hb)
                              clear BK714
                              clear BK716
                              clear HI713
                              clear HB
                              have BK714 := n0_
                              have BK716 := n1_
                              have HI713 := n2_
                              have HB := n3_
                              clear n0_ n1_ n2_ n3_
                              (try clear hb)
                              (try clear hb2)
                              (try clear hk)
                              (try clear hi)
                              refine hK.out _ _ ⟨(blk_cell BK714.out 0).trans rfl, (blk_cell BK714.out 1).trans rfl⟩ (fun hHeld => ?_)
                              clear hK K
                              refine norm_ (a' := ?_) ?_ ?_
                              rotate_left
                              · show Act.put _ (some 137) _ = _
                                simp only [Act.put, List.setIfInBounds_toArray, List.set_cons_zero, List.set_cons_succ, i64_w, i32_w]
                                rfl
                              refine pure_ (i := 22) (N := some 138) (v := ?_) (a' := ?_) #[true, true, true, true, true, true, true, true, true, true, true, true, true, true, true, true, true, true, true, true, true, true, true, false] rfl rfl (any_of HT_.out (by kernel_rfl)) (fun _ _ _ h => h) (Or.inl ⟨by rfl, ?_⟩) ?_ ?_
                              rotate_left
                              · intro w'
                                go_simp
                                with_reducible rfl
                              rotate_left
                              · simp only [Act.put, List.setIfInBounds_toArray, List.set_cons_zero, List.set_cons_succ, i64_w, i32_w]
                                rfl
                              refine pure_ (i := 23) (N := some 139) (v := ?_) (a' := ?_) #[true, true, true, true, true, true, true, true, true, true, true, true, true, true, true, true, true, true, true, true, true, true, true, true] rfl rfl (any_of HT_.out (by kernel_rfl)) (fun _ _ _ h => h) (Or.inl ⟨by rfl, ?_⟩) ?_ ?_
                              rotate_left
                              · intro w'
                                go_simp
                                with_reducible rfl
                              rotate_left
                              · simp only [Act.put, List.setIfInBounds_toArray, List.set_cons_zero, List.set_cons_succ, i64_w, i32_w]
                                rfl
                              refine done_ (done_of HT_.out (by kernel_rfl)) ?_
                              try go_wp2
                              go_ret
                              exact ⟨by first | rfl | (simp [errW_none, errW_some] <;> rfl) | (simp [*, errW_none, errW_some] <;> rfl), by repeat (first | (with_reducible first | exact HB.out | apply below_alloc | apply pw_below_drewN | apply below_drew1 | refine below_set ?_ (IsS110.ge HI713.out) | refine below_set ?_ GE714.out | refine below_set ?_ GE716.out) | exact HB.out)⟩
                          · rw [if_neg c119] at H
                            have c119b0 : (t755.toList == x715000_20.toList) = false := beq_eq_false_iff_ne.mpr c119
                            have c119b1 : (t755.toList != x715000_20.toList) = true := bne_iff_ne.mpr c119
                            obtain rfl := Option.some.inj H
                            try go_wp2
                            have n0_ := Aside0.mk (blk_drew BK714.out)
                            have n1_ := Aside0.mk (blk_drew BK716.out)
                            have n2_ := Aside0.mk (IsS110.drew HI713.out)
                            have n3_ := Aside0.mk (below_drew1 HB.out)
                            clear BK714
                            clear BK716
                            clear HI713
                            clear HB
                            have BK714 := n0_
                            have BK716 := n1_
                            have HI713 := n2_
                            have HB := n3_
                            clear n0_ n1_ n2_ n3_
                            refine start_ (n := 24) (S := fun w' => w'.cell? ⟨gb714, 0, none⟩ = some (.string x715000_20) ∧ w'.cell? ⟨gb714, 1, none⟩ = some (.int .i64 x715001_20)) (ds := []) #[false, false, false, false, false, false, false, false, false, false, false, false, false, false, false, false, false, false, false, false, false, false, false, false] (by kernel_rfl) rfl rfl ⟨(blk_cell BK714.out 0).trans rfl, (blk_cell BK714.out 1).trans rfl⟩ (fun hHeld => ?_); refine with_tabW dasdlaw01_WireReads.tab26 dasdlaw01_WireReads.bits26 (fun HT_ HW_ => ?_)
                            generalize wc.drew = w133 at BK714 BK716 HI713 HB hHeld ⊢
                            refine pure_ (i := 0) (N := some 116) (v := ?_) (a' := ?_) #[true, false, false, false, false, false, false, false, false, false, false, false, false, false, false, false, false, false, false, false, false, false, false, false] rfl rfl (any_of HT_.out (by kernel_rfl)) (fun _ _ _ h => h) (Or.inl ⟨by rfl, ?_⟩) ?_ ?_
                            rotate_left
                            · intro w'
                              go_simp
                              with_reducible rfl
                            rotate_left
                            · simp only [Act.put, List.setIfInBounds_toArray, List.set_cons_zero, List.set_cons_succ, i64_w, i32_w]
                              rfl
                            refine pure_ (i := 1) (N := some 117) (v := ?_) (a' := ?_) #[true, true, false, false, false, false, false, false, false, false, false, false, false, false, false, false, false, false, false, false, false, false, false, false] rfl rfl (any_of HT_.out (by kernel_rfl)) (fun _ _ _ h => h) (Or.inl ⟨by rfl, ?_⟩) ?_ ?_
                            rotate_left
                            · intro w'
                              go_simp
                              with_reducible rfl
                            rotate_left
                            · simp only [Act.put, List.setIfInBounds_toArray, List.set_cons_zero, List.set_cons_succ, i64_w, i32_w]
                              rfl
                            refine pure_ (i := 2) (N := some 118) (v := ?_) (a' := ?_) #[true, true, true, false, false, false, false, false, false, false, false, false, false, false, false, false, false, false, false, false, false, false, false, false] rfl rfl (any_of HT_.out (by kernel_rfl)) (fun _ _ _ h => h) (Or.inl ⟨by rfl, ?_⟩) ?_ ?_
                            rotate_left
                            · intro w'
                              go_simp
                              with_reducible rfl
                            rotate_left
                            · simp only [Act.put, List.setIfInBounds_toArray, List.set_cons_zero, List.set_cons_succ, i64_w, i32_w]
                              rfl
                            refine pure_ (i := 3) (N := some 119) (v := ?_) (a' := ?_) #[true, true, true, true, false, false, false, false, false, false, false, false, false, false, false, false, false, false, false, false, false, false, false, false] rfl rfl (any_of HT_.out (by kernel_rfl)) (fun _ _ _ h => h) (Or.inl ⟨by rfl, ?_⟩) ?_ ?_
                            rotate_left
                            · intro w'
                              go_simp
                              with_reducible rfl
                            rotate_left
                            · simp only [Act.put, List.setIfInBounds_toArray, List.set_cons_zero, List.set_cons_succ, i64_w, i32_w]
                              rfl
                            refine pure_ (i := 5) (N := some 121) (v := ?_) (a' := ?_) #[true, true, true, true, false, true, false, false, false, false, false, false, false, false, false, false, false, false, false, false, false, false, false, false] rfl rfl (any_of HT_.out (by kernel_rfl)) (fun _ _ _ h => h) (Or.inl ⟨by rfl, ?_⟩) ?_ ?_
                            rotate_left
                            · intro w'
                              go_simp
                              with_reducible rfl
                            rotate_left
                            · simp only [Act.put, List.setIfInBounds_toArray, List.set_cons_zero, List.set_cons_succ, i64_w, i32_w]
                              rfl
                            refine take_ (i := 6) (N := some 122) (v := ?_) (a' := ?_) #[true, true, true, true, false, true, true, false, false, false, false, false, false, false, false, false, false, false, false, false, false, false, false, false] rfl rfl (take_ofW HT_.out HW_.out (by kernel_rfl)) (fun _ _ _ h => h) (Or.inl ⟨by rfl, ?_⟩) hHeld ?_ ?_
                            rotate_left
                            · rintro w' ⟨s0, s1⟩
                              go_simp
                              with_reducible rfl
                            rotate_left
                            · simp only [Act.put, List.setIfInBounds_toArray, List.set_cons_zero, List.set_cons_succ, i64_w, i32_w]
                              rfl
                            refine pure_ (i := 7) (N := some 123) (v := ?_) (a' := ?_) #[true, true, true, true, false, true, true, true, false, false, false, false, false, false, false, false, false, false, false, false, false, false, false, false] rfl rfl (any_of HT_.out (by kernel_rfl)) (fun _ _ _ h => h) (Or.inl ⟨by rfl, ?_⟩) ?_ ?_
                            rotate_left
                            · intro w'
                              go_simp
                              with_reducible rfl
                            rotate_left
                            · simp only [Act.put, List.setIfInBounds_toArray, List.set_cons_zero, List.set_cons_succ, i64_w, i32_w]
                              rfl
                            refine one_ (i := 4) (N := some 120) #[true, true, true, true, true, true, true, true, false, false, false, false, false, false, false, false, false, false, false, false, false, false, false, false] rfl rfl (one_of HT_.out (by kernel_rfl)) (by decide) (fun K hK => ?_)
                            refine goes_ Try.func78 (by kernel_rfl) rfl #[.pointer (some ⟨g713, 0, none⟩)] (by rfl) rfl rfl (by (try simp only [List.map_toArray, List.map_cons, List.map_nil]); first | done | rfl | (simp only [List.length_drop, List.length_take]; rfl)) ?_
                            with_reducible refine (wire_Reader_Left.calls g713 x714000_20 x714001_20 t752 t753 t754 w _ ?side1 ?side2 A116.out).mono ?_
                            (case side1 => repeat (first | (with_reducible first | exact HI713.out | apply IsS110.alloc | apply IsS110.drewN | apply IsS110.drew | apply IsS110.set_0 | apply IsS110.set_1 | refine IsS110.far ?_ NB713_714.out _ | refine IsS110.far ?_ NB713_716.out _) | exact HI713.out))
                            (case side2 => repeat (first | (with_reducible first | exact HB.out | apply below_alloc | apply pw_below_drewN | apply below_drew1 | refine below_set ?_ (IsS110.ge HI713.out) | refine below_set ?_ GE714.out | refine below_set ?_ GE716.out) | exact HB.out))
                            rintro e w134 ⟨rfl, hi, hb, hk⟩
                            refine ⟨_, rfl, ?_⟩
                            have n0_ := Aside0.mk (KeepBut.blk hk (g' := gb714) (o := .cells #[.string x715000_20, .int .i64 x715001_20] 69 (0, 0)) (by (with_reducible repeat (first | refine blk_drewN ?_ _ | refine blk_drew ?_ | refine blk_alloc ?_ _)); exact BK714.out) NB714_713.out (by simp))
                            have n1_ := Aside0.mk (KeepBut.blk hk (g' := gb716) (o := .cells #[.int .u8 ((rd_T71 l1 x41_2).f0), .int .i64 ((rd_T71 l1 x41_2).f1)] 71 (0, 0)) (by (with_reducible repeat (first | refine blk_drewN ?_ _ | refine blk_drew ?_ | refine blk_alloc ?_ _)); exact BK716.out) NB716_713.out (by simp))
                            have n2_ := Aside0.mk (hb)
                            have n3_ := Aside0.mk (hi)
                            clear BK714
                            clear BK716
                            clear HB
                            clear HI713
                            have BK714 := n0_
                            have BK716 := n1_
                            have HB := n2_
                            have HI713 := n3_
                            clear n0_ n1_ n2_ n3_
                            (try clear hb)
                            (try clear hb2)
                            (try clear hk)
                            (try clear hi)
                            refine hK.out _ _ ⟨(blk_cell BK714.out 0).trans rfl, (blk_cell BK714.out 1).trans rfl⟩ (fun hHeld => ?_)
                            clear hK K
                            refine norm_ (a' := ?_) ?_ ?_
                            rotate_left
                            · show Act.put _ (some 120) _ = _
                              simp only [Act.put, List.setIfInBounds_toArray, List.set_cons_zero, List.set_cons_succ, i64_w, i32_w]
                              rfl
                            refine pure_ (i := 8) (N := some 124) (v := ?_) (a' := ?_) #[true, true, true, true, true, true, true, true, true, false, false, false, false, false, false, false, false, false, false, false, false, false, false, false] rfl rfl (any_of HT_.out (by kernel_rfl)) (fun _ _ _ h => h) (Or.inl ⟨by rfl, ?_⟩) ?_ ?_
                            rotate_left
                            · intro w'
                              go_simp
                              with_reducible rfl
                            rotate_left
                            · simp only [Act.put, List.setIfInBounds_toArray, List.set_cons_zero, List.set_cons_succ, i64_w, i32_w]
                              rfl
                            refine pure_ (i := 9) (N := some 125) (v := ?_) (a' := ?_) #[true, true, true, true, true, true, true, true, true, true, false, false, false, false, false, false, false, false, false, false, false, false, false, false] rfl rfl (any_of HT_.out (by kernel_rfl)) (fun _ _ _ h => h) (Or.inl ⟨by rfl, ?_⟩) ?_ ?_
                            rotate_left
                            · intro w'
                              go_simp
                              with_reducible rfl
                            rotate_left
                            · simp only [Act.put, List.setIfInBounds_toArray, List.set_cons_zero, List.set_cons_succ, i64_w, i32_w]
                              rfl
                            refine pure_ (i := 10) (N := some 126) (v := ?_) (a' := ?_) #[true, true, true, true, true, true, true, true, true, true, true, false, false, false, false, false, false, false, false, false, false, false, false, false] rfl rfl (any_of HT_.out (by kernel_rfl)) (fun _ _ _ h => h) (Or.inl ⟨by rfl, ?_⟩) ?_ ?_
                            rotate_left
                            · intro w'
                              go_simp
                              with_reducible rfl
                            rotate_left
                            · simp only [Act.put, List.setIfInBounds_toArray, List.set_cons_zero, List.set_cons_succ, i64_w, i32_w]
                              rfl
                            refine pure_ (i := 11) (N := some 127) (v := ?_) (a' := ?_) #[true, true, true, true, true, true, true, true, true, true, true, true, false, false, false, false, false, false, false, false, false, false, false, false] rfl rfl (any_of HT_.out (by kernel_rfl)) (fun _ _ _ h => h) (Or.inl ⟨by rfl, ?_⟩) ?_ ?_
                            rotate_left
                            · intro w'
                              go_simp
                              with_reducible rfl
                            rotate_left
                            · simp only [Act.put, List.setIfInBounds_toArray, List.set_cons_zero, List.set_cons_succ, i64_w, i32_w]
                              rfl
                            refine pure_ (i := 13) (N := some 129) (v := ?_) (a' := ?_) #[true, true, true, true, true, true, true, true, true, true, true, true, false, true, false, false, false, false, false, false, false, false, false, false] rfl rfl (any_of HT_.out (by kernel_rfl)) (fun _ _ _ h => h) (Or.inl ⟨by rfl, ?_⟩) ?_ ?_
                            rotate_left
                            · intro w'
                              go_simp
                              with_reducible rfl
                            rotate_left
                            · simp only [Act.put, List.setIfInBounds_toArray, List.set_cons_zero, List.set_cons_succ, i64_w, i32_w]
                              rfl
                            refine take_ (i := 14) (N := some 130) (v := ?_) (a' := ?_) #[true, true, true, true, true, true, true, true, true, true, true, true, false, true, true, false, false, false, false, false, false, false, false, false] rfl rfl (take_ofW HT_.out HW_.out (by kernel_rfl)) (fun _ _ _ h => h) (Or.inl ⟨by rfl, ?_⟩) hHeld ?_ ?_
                            rotate_left
                            · rintro w' ⟨s0, s1⟩
                              go_simp
                              with_reducible rfl
                            rotate_left
                            · simp only [Act.put, List.setIfInBounds_toArray, List.set_cons_zero, List.set_cons_succ, i64_w, i32_w]
                              rfl
                            refine one_ (i := 12) (N := some 128) #[true, true, true, true, true, true, true, true, true, true, true, true, true, true, true, false, false, false, false, false, false, false, false, false] rfl rfl (one_of HT_.out (by kernel_rfl)) (by decide) (fun K hK => ?_)
                            refine goes_ Try.func79 (by kernel_rfl) rfl #[.pointer (some ⟨g713, 0, none⟩)] (by rfl) rfl rfl (by (try simp only [List.map_toArray, List.map_cons, List.map_nil]); first | done | rfl | (simp only [List.length_drop, List.length_take]; rfl)) ?_
                            with_reducible refine (wire_Reader_Rest.calls g713 t753 t754 t755 t756 t757 w _ ?side1 ?side2 A118.out).mono ?_
                            (case side1 => repeat (first | (with_reducible first | exact HI713.out | apply IsS110.alloc | apply IsS110.drewN | apply IsS110.drew | apply IsS110.set_0 | apply IsS110.set_1 | refine IsS110.far ?_ NB713_714.out _ | refine IsS110.far ?_ NB713_716.out _) | exact HI713.out))
                            (case side2 => repeat (first | (with_reducible first | exact HB.out | apply below_alloc | apply pw_below_drewN | apply below_drew1 | refine below_set ?_ (IsS110.ge HI713.out) | refine below_set ?_ GE714.out | refine below_set ?_ GE716.out) | exact HB.out))
                            rintro e w135 ⟨rfl, hi, hb, hk⟩
                            refine ⟨_, rfl, ?_⟩
                            have n0_ := Aside0.mk (KeepBut.blk hk (g' := gb714) (o := .cells #[.string x715000_20, .int .i64 x715001_20] 69 (0, 0)) (by (with_reducible repeat (first | refine blk_drewN ?_ _ | refine blk_drew ?_ | refine blk_alloc ?_ _)); exact BK714.out) NB714_713.out (by simp))
                            have n1_ := Aside0.mk (KeepBut.blk hk (g' := gb716) (o := .cells #[.int .u8 ((rd_T71 l1 x41_2).f0), .int .i64 ((rd_T71 l1 x41_2).f1)] 71 (0, 0)) (by (with_reducible repeat (first | refine blk_drewN ?_ _ | refine blk_drew ?_ | refine blk_alloc ?_ _)); exact BK716.out) NB716_713.out (by simp))
                            have n2_ := Aside0.mk (hb)
                            have n3_ := Aside0.mk (hi)
                            clear BK714
                            clear BK716
                            clear HB
                            clear HI713
                            have BK714 := n0_
                            have BK716 := n1_
                            have HB := n2_
                            have HI713 := n3_
                            clear n0_ n1_ n2_ n3_
                            (try clear hb)
                            (try clear hb2)
                            (try clear hk)
                            (try clear hi)
                            refine hK.out _ _ ⟨(blk_cell BK714.out 0).trans rfl, (blk_cell BK714.out 1).trans rfl⟩ (fun hHeld => ?_)
                            clear hK K
                            refine norm_ (a' := ?_) ?_ ?_
                            rotate_left
                            · show Act.put _ (some 128) _ = _
                              simp only [Act.put, List.setIfInBounds_toArray, List.set_cons_zero, List.set_cons_succ, i64_w, i32_w]
                              rfl
                            refine pure_ (i := 15) (N := some 131) (v := ?_) (a' := ?_) #[true, true, true, true, true, true, true, true, true, true, true, true, true, true, true, true, false, false, false, false, false, false, false, false] rfl rfl (any_of HT_.out (by kernel_rfl)) (fun _ _ _ h => h) (Or.inl ⟨by rfl, ?_⟩) ?_ ?_
                            rotate_left
                            · intro w'
                              go_simp
                              with_reducible rfl
                            rotate_left
                            · simp only [Act.put, List.setIfInBounds_toArray, List.set_cons_zero, List.set_cons_succ, i64_w, i32_w]
                              rfl
                            refine pure_ (i := 16) (N := some 132) (v := ?_) (a' := ?_) #[true, true, true, true, true, true, true, true, true, true, true, true, true, true, true, true, true, false, false, false, false, false, false, false] rfl rfl (any_of HT_.out (by kernel_rfl)) (fun _ _ _ h => h) (Or.inl ⟨by rfl, ?_⟩) ?_ ?_
                            rotate_left
                            · intro w'
                              go_simp
                              with_reducible rfl
                            rotate_left
                            · simp only [Act.put, List.setIfInBounds_toArray, List.set_cons_zero, List.set_cons_succ, i64_w, i32_w]
                              rfl
                            refine pure_ (i := 17) (N := some 133) (v := ?_) (a' := ?_) #[true, true, true, true, true, true, true, true, true, true, true, true, true, true, true, true, true, true, false, false, false, false, false, false] rfl rfl (any_of HT_.out (by kernel_rfl)) (fun _ _ _ h => h) (Or.inl ⟨by rfl, ?_⟩) ?_ ?_
                            rotate_left
                            · intro w'
                              go_simp
                              with_reducible rfl
                            rotate_left
                            · simp only [Act.put, List.setIfInBounds_toArray, List.set_cons_zero, List.set_cons_succ, i64_w, i32_w]
                              rfl
                            refine pure_ (i := 18) (N := some 134) (v := undef) (a' := ?_) #[true, true, true, true, true, true, true, true, true, true, true, true, true, true, true, true, true, true, true, false, false, false, false, false] rfl rfl (any_of HT_.out (by kernel_rfl)) (fun _ _ _ h => h) (Or.inr ⟨by rfl, rfl⟩) ?_ ?_
                            rotate_left
                            · simp only [Act.put, List.setIfInBounds_toArray, List.set_cons_zero, List.set_cons_succ, i64_w, i32_w]
                              rfl
                            refine pure_ (i := 19) (N := some 135) (v := undef) (a' := ?_) #[true, true, true, true, true, true, true, true, true, true, true, true, true, true, true, true, true, true, true, true, false, false, false, false] rfl rfl (any_of HT_.out (by kernel_rfl)) (fun _ _ _ h => h) (Or.inr ⟨by rfl, rfl⟩) ?_ ?_
                            rotate_left
                            · simp only [Act.put, List.setIfInBounds_toArray, List.set_cons_zero, List.set_cons_succ, i64_w, i32_w]
                              rfl
                            refine pure_ (i := 20) (N := some 136) (v := undef) (a' := ?_) #[true, true, true, true, true, true, true, true, true, true, true, true, true, true, true, true, true, true, true, true, true, false, false, false] rfl rfl (any_of HT_.out (by kernel_rfl)) (fun _ _ _ h => h) (Or.inr ⟨by rfl, rfl⟩) ?_ ?_
                            rotate_left
                            · simp only [Act.put, List.setIfInBounds_toArray, List.set_cons_zero, List.set_cons_succ, i64_w, i32_w]
                              rfl
                            refine pure_ (i := 21) (N := some 137) (v := undef) (a' := ?_) #[true, true, true, true, true, true, true, true, true, true, true, true, true, true, true, true, true, true, true, true, true, true, false, false] rfl rfl (any_of HT_.out (by kernel_rfl)) (fun _ _ _ h => h) (Or.inr ⟨by rfl, rfl⟩) ?_ ?_
                            rotate_left
                            · simp only [Act.put, List.setIfInBounds_toArray, List.set_cons_zero, List.set_cons_succ, i64_w, i32_w]
                              rfl
                            refine pure_ (i := 22) (N := some 138) (v := undef) (a' := ?_) #[true, true, true, true, true, true, true, true, true, true, true, true, true, true, true, true, true, true, true, true, true, true, true, false] rfl rfl (any_of HT_.out (by kernel_rfl)) (fun _ _ _ h => h) (Or.inr ⟨by rfl, rfl⟩) ?_ ?_
                            rotate_left
                            · simp only [Act.put, List.setIfInBounds_toArray, List.set_cons_zero, List.set_cons_succ, i64_w, i32_w]
                              rfl
                            refine pure_ (i := 23) (N := some 139) (v := ?_) (a' := ?_) #[true, true, true, true, true, true, true, true, true, true, true, true, true, true, true, true, true, true, true, true, true, true, true, true] rfl rfl (any_of HT_.out (by kernel_rfl)) (fun _ _ _ h => h) (Or.inl ⟨by rfl, ?_⟩) ?_ ?_
                            rotate_left
                            · intro w'
                              go_simp
                              with_reducible rfl
                            rotate_left
                            · simp only [Act.put, List.setIfInBounds_toArray, List.set_cons_zero, List.set_cons_succ, i64_w, i32_w]
                              rfl
                            refine done_ (done_of HT_.out (by kernel_rfl)) ?_
                            try go_wp2
                            go_ret
                            exact ⟨by first | rfl | (simp [errW_none, errW_some] <;> rfl) | (simp [*, errW_none, errW_some] <;> rfl), by repeat (first | (with_reducible first | exact HB.out | apply below_alloc | apply pw_below_drewN | apply below_drew1 | refine below_set ?_ (IsS110.ge HI713.out) | refine below_set ?_ GE714.out | refine below_set ?_ GE716.out) | exact HB.out)⟩
                        · rw [if_neg c117] at H
                          have c117b0 : (t752 == (x715000_20.size : Int)) = false := beq_eq_false_iff_ne.mpr c117
                          have c117b1 : (t752 != (x715000_20.size : Int)) = true := bne_iff_ne.mpr c117
                          obtain rfl := Option.some.inj H
                          try go_wp2
                          have n0_ := Aside0.mk (blk_drew BK714.out)
                          have n1_ := Aside0.mk (blk_drew BK716.out)
                          have n2_ := Aside0.mk (IsS110.drew HI713.out)
                          have n3_ := Aside0.mk (below_drew1 HB.out)
                          clear BK714
                          clear BK716
                          clear HI713
                          clear HB
                          have BK714 := n0_
                          have BK716 := n1_
                          have HI713 := n2_
                          have HB := n3_
                          clear n0_ n1_ n2_ n3_
                          refine start_ (n := 24) (S := fun w' => w'.cell? ⟨gb714, 0, none⟩ = some (.string x715000_20) ∧ w'.cell? ⟨gb714, 1, none⟩ = some (.int .i64 x715001_20)) (ds := []) #[false, false, false, false, false, false, false, false, false, false, false, false, false, false, false, false, false, false, false, false, false, false, false, false] (by kernel_rfl) rfl rfl ⟨(blk_cell BK714.out 0).trans rfl, (blk_cell BK714.out 1).trans rfl⟩ (fun hHeld => ?_); refine with_tabW dasdlaw01_WireReads.tab26 dasdlaw01_WireReads.bits26 (fun HT_ HW_ => ?_)
                          generalize wc.drew = w136 at BK714 BK716 HI713 HB hHeld ⊢
                          refine pure_ (i := 0) (N := some 116) (v := ?_) (a' := ?_) #[true, false, false, false, false, false, false, false, false, false, false, false, false, false, false, false, false, false, false, false, false, false, false, false] rfl rfl (any_of HT_.out (by kernel_rfl)) (fun _ _ _ h => h) (Or.inl ⟨by rfl, ?_⟩) ?_ ?_
                          rotate_left
                          · intro w'
                            go_simp
                            with_reducible rfl
                          rotate_left
                          · simp only [Act.put, List.setIfInBounds_toArray, List.set_cons_zero, List.set_cons_succ, i64_w, i32_w]
                            rfl
                          refine pure_ (i := 1) (N := some 117) (v := ?_) (a' := ?_) #[true, true, false, false, false, false, false, false, false, false, false, false, false, false, false, false, false, false, false, false, false, false, false, false] rfl rfl (any_of HT_.out (by kernel_rfl)) (fun _ _ _ h => h) (Or.inl ⟨by rfl, ?_⟩) ?_ ?_
                          rotate_left
                          · intro w'
                            go_simp
                            with_reducible rfl
                          rotate_left
                          · simp only [Act.put, List.setIfInBounds_toArray, List.set_cons_zero, List.set_cons_succ, i64_w, i32_w]
                            rfl
                          refine pure_ (i := 2) (N := some 118) (v := ?_) (a' := ?_) #[true, true, true, false, false, false, false, false, false, false, false, false, false, false, false, false, false, false, false, false, false, false, false, false] rfl rfl (any_of HT_.out (by kernel_rfl)) (fun _ _ _ h => h) (Or.inl ⟨by rfl, ?_⟩) ?_ ?_
                          rotate_left
                          · intro w'
                            go_simp
                            with_reducible rfl
                          rotate_left
                          · simp only [Act.put, List.setIfInBounds_toArray, List.set_cons_zero, List.set_cons_succ, i64_w, i32_w]
                            rfl
                          refine pure_ (i := 3) (N := some 119) (v := ?_) (a' := ?_) #[true, true, true, true, false, false, false, false, false, false, false, false, false, false, false, false, false, false, false, false, false, false, false, false] rfl rfl (any_of HT_.out (by kernel_rfl)) (fun _ _ _ h => h) (Or.inl ⟨by rfl, ?_⟩) ?_ ?_
                          rotate_left
                          · intro w'
                            go_simp
                            with_reducible rfl
                          rotate_left
                          · simp only [Act.put, List.setIfInBounds_toArray, List.set_cons_zero, List.set_cons_succ, i64_w, i32_w]
                            rfl
                          refine pure_ (i := 5) (N := some 121) (v := ?_) (a' := ?_) #[true, true, true, true, false, true, false, false, false, false, false, false, false, false, false, false, false, false, false, false, false, false, false, false] rfl rfl (any_of HT_.out (by kernel_rfl)) (fun _ _ _ h => h) (Or.inl ⟨by rfl, ?_⟩) ?_ ?_
                          rotate_left
                          · intro w'
                            go_simp
                            with_reducible rfl
                          rotate_left
                          · simp only [Act.put, List.setIfInBounds_toArray, List.set_cons_zero, List.set_cons_succ, i64_w, i32_w]
                            rfl
                          refine take_ (i := 6) (N := some 122) (v := ?_) (a' := ?_) #[true, true, true, true, false, true, true, false, false, false, false, false, false, false, false, false, false, false, false, false, false, false, false, false] rfl rfl (take_ofW HT_.out HW_.out (by kernel_rfl)) (fun _ _ _ h => h) (Or.inl ⟨by rfl, ?_⟩) hHeld ?_ ?_
                          rotate_left
                          · rintro w' ⟨s0, s1⟩
                            go_simp
                            with_reducible rfl
                          rotate_left
                          · simp only [Act.put, List.setIfInBounds_toArray, List.set_cons_zero, List.set_cons_succ, i64_w, i32_w]
                            rfl
                          refine pure_ (i := 7) (N := some 123) (v := ?_) (a' := ?_) #[true, true, true, true, false, true, true, true, false, false, false, false, false, false, false, false, false, false, false, false, false, false, false, false] rfl rfl (any_of HT_.out (by kernel_rfl)) (fun _ _ _ h => h) (Or.inl ⟨by rfl, ?_⟩) ?_ ?_
                          rotate_left
                          · intro w'
                            go_simp
                            with_reducible rfl
                          rotate_left
                          · simp only [Act.put, List.setIfInBounds_toArray, List.set_cons_zero, List.set_cons_succ, i64_w, i32_w]
                            rfl
                          refine one_ (i := 4) (N := some 120) #[true, true, true, true, true, true, true, true, false, false, false, false, false, false, false, false, false, false, false, false, false, false, false, false] rfl rfl (one_of HT_.out (by kernel_rfl)) (by decide) (fun K hK => ?_)
                          refine goes_ Try.func78 (by kernel_rfl) rfl #[.pointer (some ⟨g713, 0, none⟩)] (by rfl) rfl rfl (by (try simp only [List.map_toArray, List.map_cons, List.map_nil]); first | done | rfl | (simp only [List.length_drop, List.length_take]; rfl)) ?_
                          with_reducible refine (wire_Reader_Left.calls g713 x714000_20 x714001_20 t752 t753 t754 w _ ?side1 ?side2 A116.out).mono ?_
                          (case side1 => repeat (first | (with_reducible first | exact HI713.out | apply IsS110.alloc | apply IsS110.drewN | apply IsS110.drew | apply IsS110.set_0 | apply IsS110.set_1 | refine IsS110.far ?_ NB713_714.out _ | refine IsS110.far ?_ NB713_716.out _) | exact HI713.out))
                          (case side2 => repeat (first | (with_reducible first | exact HB.out | apply below_alloc | apply pw_below_drewN | apply below_drew1 | refine below_set ?_ (IsS110.ge HI713.out) | refine below_set ?_ GE714.out | refine below_set ?_ GE716.out) | exact HB.out))
                          rintro e w137 ⟨rfl, hi, hb, hk⟩
                          refine ⟨_, rfl, ?_⟩
                          have n0_ := Aside0.mk (KeepBut.blk hk (g' := gb714) (o := .cells #[.string x715000_20, .int .i64 x715001_20] 69 (0, 0)) (by (with_reducible repeat (first | refine blk_drewN ?_ _ | refine blk_drew ?_ | refine blk_alloc ?_ _)); exact BK714.out) NB714_713.out (by simp))
                          have n1_ := Aside0.mk (KeepBut.blk hk (g' := gb716) (o := .cells #[.int .u8 ((rd_T71 l1 x41_2).f0), .int .i64 ((rd_T71 l1 x41_2).f1)] 71 (0, 0)) (by (with_reducible repeat (first | refine blk_drewN ?_ _ | refine blk_drew ?_ | refine blk_alloc ?_ _)); exact BK716.out) NB716_713.out (by simp))
                          have n2_ := Aside0.mk (hb)
                          have n3_ := Aside0.mk (hi)
                          clear BK714
                          clear BK716
                          clear HB
                          clear HI713
                          have BK714 := n0_
                          have BK716 := n1_
                          have HB := n2_
                          have HI713 := n3_
                          clear n0_ n1_ n2_ n3_
                          (try clear hb)
                          (try clear hb2)
                          (try clear hk)
                          (try clear hi)
                          refine hK.out _ _ ⟨(blk_cell BK714.out 0).trans rfl, (blk_cell BK714.out 1).trans rfl⟩ (fun hHeld => ?_)
                          clear hK K
                          refine norm_ (a' := ?_) ?_ ?_
                          rotate_left
                          · show Act.put _ (some 120) _ = _
                            simp only [Act.put, List.setIfInBounds_toArray, List.set_cons_zero, List.set_cons_succ, i64_w, i32_w]
                            rfl
                          refine pure_ (i := 8) (N := some 124) (v := ?_) (a' := ?_) #[true, true, true, true, true, true, true, true, true, false, false, false, false, false, false, false, false, false, false, false, false, false, false, false] rfl rfl (any_of HT_.out (by kernel_rfl)) (fun _ _ _ h => h) (Or.inl ⟨by rfl, ?_⟩) ?_ ?_
                          rotate_left
                          · intro w'
                            go_simp
                            with_reducible rfl
                          rotate_left
                          · simp only [Act.put, List.setIfInBounds_toArray, List.set_cons_zero, List.set_cons_succ, i64_w, i32_w]
                            rfl
                          refine pure_ (i := 9) (N := some 125) (v := ?_) (a' := ?_) #[true, true, true, true, true, true, true, true, true, true, false, false, false, false, false, false, false, false, false, false, false, false, false, false] rfl rfl (any_of HT_.out (by kernel_rfl)) (fun _ _ _ h => h) (Or.inl ⟨by rfl, ?_⟩) ?_ ?_
                          rotate_left
                          · intro w'
                            go_simp
                            with_reducible rfl
                          rotate_left
                          · simp only [Act.put, List.setIfInBounds_toArray, List.set_cons_zero, List.set_cons_succ, i64_w, i32_w]
                            rfl
                          refine pure_ (i := 10) (N := some 126) (v := ?_) (a' := ?_) #[true, true, true, true, true, true, true, true, true, true, true, false, false, false, false, false, false, false, false, false, false, false, false, false] rfl rfl (any_of HT_.out (by kernel_rfl)) (fun _ _ _ h => h) (Or.inl ⟨by rfl, ?_⟩) ?_ ?_
                          rotate_left
                          · intro w'
                            go_simp
                            with_reducible rfl
                          rotate_left
                          · simp only [Act.put, List.setIfInBounds_toArray, List.set_cons_zero, List.set_cons_succ, i64_w, i32_w]
                            rfl
                          refine pure_ (i := 11) (N := some 127) (v := undef) (a' := ?_) #[true, true, true, true, true, true, true, true, true, true, true, true, false, false, false, false, false, false, false, false, false, false, false, false] rfl rfl (any_of HT_.out (by kernel_rfl)) (fun _ _ _ h => h) (Or.inr ⟨by rfl, rfl⟩) ?_ ?_
                          rotate_left
                          · simp only [Act.put, List.setIfInBounds_toArray, List.set_cons_zero, List.set_cons_succ, i64_w, i32_w]
                            rfl
                          refine pure_ (i := 12) (N := some 128) (v := undef) (a' := ?_) #[true, true, true, true, true, true, true, true, true, true, true, true, true, false, false, false, false, false, false, false, false, false, false, false] rfl rfl (any_of HT_.out (by kernel_rfl)) (fun _ _ _ h => h) (Or.inr ⟨by rfl, rfl⟩) ?_ ?_
                          rotate_left
                          · simp only [Act.put, List.setIfInBounds_toArray, List.set_cons_zero, List.set_cons_succ, i64_w, i32_w]
                            rfl
                          refine pure_ (i := 13) (N := some 129) (v := undef) (a' := ?_) #[true, true, true, true, true, true, true, true, true, true, true, true, true, true, false, false, false, false, false, false, false, false, false, false] rfl rfl (any_of HT_.out (by kernel_rfl)) (fun _ _ _ h => h) (Or.inr ⟨by rfl, rfl⟩) ?_ ?_
                          rotate_left
                          · simp only [Act.put, List.setIfInBounds_toArray, List.set_cons_zero, List.set_cons_succ, i64_w, i32_w]
                            rfl
                          refine pure_ (i := 14) (N := some 130) (v := undef) (a' := ?_) #[true, true, true, true, true, true, true, true, true, true, true, true, true, true, true, false, false, false, false, false, false, false, false, false] rfl rfl (any_of HT_.out (by kernel_rfl)) (fun _ _ _ h => h) (Or.inr ⟨by rfl, rfl⟩) ?_ ?_
                          rotate_left
                          · simp only [Act.put, List.setIfInBounds_toArray, List.set_cons_zero, List.set_cons_succ, i64_w, i32_w]
                            rfl
                          refine pure_ (i := 15) (N := some 131) (v := undef) (a' := ?_) #[true, true, true, true, true, true, true, true, true, true, true, true, true, true, true, true, false, false, false, false, false, false, false, false] rfl rfl (any_of HT_.out (by kernel_rfl)) (fun _ _ _ h => h) (Or.inr ⟨by rfl, rfl⟩) ?_ ?_
                          rotate_left
                          · simp only [Act.put, List.setIfInBounds_toArray, List.set_cons_zero, List.set_cons_succ, i64_w, i32_w]
                            rfl
                          refine pure_ (i := 16) (N := some 132) (v := ?_) (a' := ?_) #[true, true, true, true, true, true, true, true, true, true, true, true, true, true, true, true, true, false, false, false, false, false, false, false] rfl rfl (any_of HT_.out (by kernel_rfl)) (fun _ _ _ h => h) (Or.inl ⟨by rfl, ?_⟩) ?_ ?_
                          rotate_left
                          · intro w'
                            go_simp
                            with_reducible rfl
                          rotate_left
                          · simp only [Act.put, List.setIfInBounds_toArray, List.set_cons_zero, List.set_cons_succ, i64_w, i32_w]
                            rfl
                          refine pure_ (i := 17) (N := some 133) (v := ?_) (a' := ?_) #[true, true, true, true, true, true, true, true, true, true, true, true, true, true, true, true, true, true, false, false, false, false, false, false] rfl rfl (any_of HT_.out (by kernel_rfl)) (fun _ _ _ h => h) (Or.inl ⟨by rfl, ?_⟩) ?_ ?_
                          rotate_left
                          · intro w'
                            go_simp
                            with_reducible rfl
                          rotate_left
                          · simp only [Act.put, List.setIfInBounds_toArray, List.set_cons_zero, List.set_cons_succ, i64_w, i32_w]
                            rfl
                          refine pure_ (i := 18) (N := some 134) (v := undef) (a' := ?_) #[true, true, true, true, true, true, true, true, true, true, true, true, true, true, true, true, true, true, true, false, false, false, false, false] rfl rfl (any_of HT_.out (by kernel_rfl)) (fun _ _ _ h => h) (Or.inr ⟨by rfl, rfl⟩) ?_ ?_
                          rotate_left
                          · simp only [Act.put, List.setIfInBounds_toArray, List.set_cons_zero, List.set_cons_succ, i64_w, i32_w]
                            rfl
                          refine pure_ (i := 19) (N := some 135) (v := undef) (a' := ?_) #[true, true, true, true, true, true, true, true, true, true, true, true, true, true, true, true, true, true, true, true, false, false, false, false] rfl rfl (any_of HT_.out (by kernel_rfl)) (fun _ _ _ h => h) (Or.inr ⟨by rfl, rfl⟩) ?_ ?_
                          rotate_left
                          · simp only [Act.put, List.setIfInBounds_toArray, List.set_cons_zero, List.set_cons_succ, i64_w, i32_w]
                            rfl
                          refine pure_ (i := 20) (N := some 136) (v := undef) (a' := ?_) #[true, true, true, true, true, true, true, true, true, true, true, true, true, true, true, true, true, true, true, true, true, false, false, false] rfl rfl (any_of HT_.out (by kernel_rfl)) (fun _ _ _ h => h) (Or.inr ⟨by rfl, rfl⟩) ?_ ?_
                          rotate_left
                          · simp only [Act.put, List.setIfInBounds_toArray, List.set_cons_zero, List.set_cons_succ, i64_w, i32_w]
                            rfl
                          refine pure_ (i := 21) (N := some 137) (v := undef) (a' := ?_) #[true, true, true, true, true, true, true, true, true, true, true, true, true, true, true, true, true, true, true, true, true, true, false, false] rfl rfl (any_of HT_.out (by kernel_rfl)) (fun _ _ _ h => h) (Or.inr ⟨by rfl, rfl⟩) ?_ ?_
                          rotate_left
                          · simp only [Act.put, List.setIfInBounds_toArray, List.set_cons_zero, List.set_cons_succ, i64_w, i32_w]
                            rfl
                          refine pure_ (i := 22) (N := some 138) (v := undef) (a' := ?_) #[true, true, true, true, true, true, true, true, true, true, true, true, true, true, true, true, true, true, true, true, true, true, true, false] rfl rfl (any_of HT_.out (by kernel_rfl)) (fun _ _ _ h => h) (Or.inr ⟨by rfl, rfl⟩) ?_ ?_
                          rotate_left
                          · simp only [Act.put, List.setIfInBounds_toArray, List.set_cons_zero, List.set_cons_succ, i64_w, i32_w]
                            rfl
                          refine pure_ (i := 23) (N := some 139) (v := ?_) (a' := ?_) #[true, true, true, true, true, true, true, true, true, true, true, true, true, true, true, true, true, true, true, true, true, true, true, true] rfl rfl (any_of HT_.out (by kernel_rfl)) (fun _ _ _ h => h) (Or.inl ⟨by rfl, ?_⟩) ?_ ?_
                          rotate_left
                          · intro w'
                            go_simp
                            with_reducible rfl
                          rotate_left
                          · simp only [Act.put, List.setIfInBounds_toArray, List.set_cons_zero, List.set_cons_succ, i64_w, i32_w]
                            rfl
                          refine done_ (done_of HT_.out (by kernel_rfl)) ?_
                          try go_wp2
                          go_ret
                          exact ⟨by first | rfl | (simp [errW_none, errW_some] <;> rfl) | (simp [*, errW_none, errW_some] <;> rfl), by repeat (first | (with_reducible first | exact HB.out | apply below_alloc | apply pw_below_drewN | apply below_drew1 | refine below_set ?_ (IsS110.ge HI713.out) | refine below_set ?_ GE714.out | refine below_set ?_ GE716.out) | exact HB.out)⟩
                      · replace c115 := Bool.eq_false_iff.mpr c115
                        subst c115
                        have H1 : (some false) = some r := by rw [if_neg (show ¬ (false = true) by decide)] at H; exact H
                        clear H
                        have H := H1
                        clear H1
                        obtain rfl := Option.some.inj H
                        try go_wp2
                        have n0_ := Aside0.mk (blk_drew BK714.out)
                        have n1_ := Aside0.mk (blk_drew BK716.out)
                        have n2_ := Aside0.mk (IsS110.drew HI713.out)
                        have n3_ := Aside0.mk (below_drew1 HB.out)
                        clear BK714
                        clear BK716
                        clear HI713
                        clear HB
                        have BK714 := n0_
                        have BK716 := n1_
                        have HI713 := n2_
                        have HB := n3_
                        clear n0_ n1_ n2_ n3_
                        refine start_ (n := 24) (S := fun w' => True) (ds := []) #[false, false, false, false, false, false, false, false, false, false, false, false, false, false, false, false, false, false, false, false, false, false, false, false] (by kernel_rfl) rfl rfl trivial (fun hHeld => ?_); refine with_tabW dasdlaw01_WireReads.tab26 dasdlaw01_WireReads.bits26 (fun HT_ HW_ => ?_)
                        generalize wc.drew = w138 at BK714 BK716 HI713 HB hHeld ⊢
                        refine pure_ (i := 0) (N := some 116) (v := ?_) (a' := ?_) #[true, false, false, false, false, false, false, false, false, false, false, false, false, false, false, false, false, false, false, false, false, false, false, false] rfl rfl (any_of HT_.out (by kernel_rfl)) (fun _ _ _ h => h) (Or.inl ⟨by rfl, ?_⟩) ?_ ?_
                        rotate_left
                        · intro w'
                          go_simp
                          with_reducible rfl
                        rotate_left
                        · simp only [Act.put, List.setIfInBounds_toArray, List.set_cons_zero, List.set_cons_succ, i64_w, i32_w]
                          rfl
                        refine pure_ (i := 1) (N := some 117) (v := ?_) (a' := ?_) #[true, true, false, false, false, false, false, false, false, false, false, false, false, false, false, false, false, false, false, false, false, false, false, false] rfl rfl (any_of HT_.out (by kernel_rfl)) (fun _ _ _ h => h) (Or.inl ⟨by rfl, ?_⟩) ?_ ?_
                        rotate_left
                        · intro w'
                          go_simp
                          with_reducible rfl
                        rotate_left
                        · simp only [Act.put, List.setIfInBounds_toArray, List.set_cons_zero, List.set_cons_succ, i64_w, i32_w]
                          rfl
                        refine pure_ (i := 2) (N := some 118) (v := ?_) (a' := ?_) #[true, true, true, false, false, false, false, false, false, false, false, false, false, false, false, false, false, false, false, false, false, false, false, false] rfl rfl (any_of HT_.out (by kernel_rfl)) (fun _ _ _ h => h) (Or.inl ⟨by rfl, ?_⟩) ?_ ?_
                        rotate_left
                        · intro w'
                          go_simp
                          with_reducible rfl
                        rotate_left
                        · simp only [Act.put, List.setIfInBounds_toArray, List.set_cons_zero, List.set_cons_succ, i64_w, i32_w]
                          rfl
                        refine pure_ (i := 3) (N := some 119) (v := undef) (a' := ?_) #[true, true, true, true, false, false, false, false, false, false, false, false, false, false, false, false, false, false, false, false, false, false, false, false] rfl rfl (any_of HT_.out (by kernel_rfl)) (fun _ _ _ h => h) (Or.inr ⟨by rfl, rfl⟩) ?_ ?_
                        rotate_left
                        · simp only [Act.put, List.setIfInBounds_toArray, List.set_cons_zero, List.set_cons_succ, i64_w, i32_w]
                          rfl
                        refine pure_ (i := 4) (N := some 120) (v := undef) (a' := ?_) #[true, true, true, true, true, false, false, false, false, false, false, false, false, false, false, false, false, false, false, false, false, false, false, false] rfl rfl (any_of HT_.out (by kernel_rfl)) (fun _ _ _ h => h) (Or.inr ⟨by rfl, rfl⟩) ?_ ?_
                        rotate_left
                        · simp only [Act.put, List.setIfInBounds_toArray, List.set_cons_zero, List.set_cons_succ, i64_w, i32_w]
                          rfl
                        refine pure_ (i := 5) (N := some 121) (v := undef) (a' := ?_) #[true, true, true, true, true, true, false, false, false, false, false, false, false, false, false, false, false, false, false, false, false, false, false, false] rfl rfl (any_of HT_.out (by kernel_rfl)) (fun _ _ _ h => h) (Or.inr ⟨by rfl, rfl⟩) ?_ ?_
                        rotate_left
                        · simp only [Act.put, List.setIfInBounds_toArray, List.set_cons_zero, List.set_cons_succ, i64_w, i32_w]
                          rfl
                        refine pure_ (i := 6) (N := some 122) (v := undef) (a' := ?_) #[true, true, true, true, true, true, true, false, false, false, false, false, false, false, false, false, false, false, false, false, false, false, false, false] rfl rfl (any_of HT_.out (by kernel_rfl)) (fun _ _ _ h => h) (Or.inr ⟨by rfl, rfl⟩) ?_ ?_
                        rotate_left
                        · simp only [Act.put, List.setIfInBounds_toArray, List.set_cons_zero, List.set_cons_succ, i64_w, i32_w]
                          rfl
                        refine pure_ (i := 7) (N := some 123) (v := undef) (a' := ?_) #[true, true, true, true, true, true, true, true, false, false, false, false, false, false, false, false, false, false, false, false, false, false, false, false] rfl rfl (any_of HT_.out (by kernel_rfl)) (fun _ _ _ h => h) (Or.inr ⟨by rfl, rfl⟩) ?_ ?_
                        rotate_left
                        · simp only [Act.put, List.setIfInBounds_toArray, List.set_cons_zero, List.set_cons_succ, i64_w, i32_w]
                          rfl
                        refine pure_ (i := 8) (N := some 124) (v := undef) (a' := ?_) #[true, true, true, true, true, true, true, true, true, false, false, false, false, false, false, false, false, false, false, false, false, false, false, false] rfl rfl (any_of HT_.out (by kernel_rfl)) (fun _ _ _ h => h) (Or.inr ⟨by rfl, rfl⟩) ?_ ?_
                        rotate_left
                        · simp only [Act.put, List.setIfInBounds_toArray, List.set_cons_zero, List.set_cons_succ, i64_w, i32_w]
                          rfl
                        refine pure_ (i := 9) (N := some 125) (v := ?_) (a' := ?_) #[true, true, true, true, true, true, true, true, true, true, false, false, false, false, false, false, false, false, false, false, false, false, false, false] rfl rfl (any_of HT_.out (by kernel_rfl)) (fun _ _ _ h => h) (Or.inl ⟨by rfl, ?_⟩) ?_ ?_
                        rotate_left
                        · intro w'
                          go_simp
                          with_reducible rfl
                        rotate_left
                        · simp only [Act.put, List.setIfInBounds_toArray, List.set_cons_zero, List.set_cons_succ, i64_w, i32_w]
                          rfl
                        refine pure_ (i := 10) (N := some 126) (v := ?_) (a' := ?_) #[true, true, true, true, true, true, true, true, true, true, true, false, false, false, false, false, false, false, false, false, false, false, false, false] rfl rfl (any_of HT_.out (by kernel_rfl)) (fun _ _ _ h => h) (Or.inl ⟨by rfl, ?_⟩) ?_ ?_
                        rotate_left
                        · intro w'
                          go_simp
                          with_reducible rfl
                        rotate_left
                        · simp only [Act.put, List.setIfInBounds_toArray, List.set_cons_zero, List.set_cons_succ, i64_w, i32_w]
                          rfl
                        refine pure_ (i := 11) (N := some 127) (v := undef) (a' := ?_) #[true, true, true, true, true, true, true, true, true, true, true, true, false, false, false, false, false, false, false, false, false, false, false, false] rfl rfl (any_of HT_.out (by kernel_rfl)) (fun _ _ _ h => h) (Or.inr ⟨by rfl, rfl⟩) ?_ ?_
                        rotate_left
                        · simp only [Act.put, List.setIfInBounds_toArray, List.set_cons_zero, List.set_cons_succ, i64_w, i32_w]
                          rfl
                        refine pure_ (i := 12) (N := some 128) (v := undef) (a' := ?_) #[true, true, true, true, true, true, true, true, true, true, true, true, true, false, false, false, false, false, false, false, false, false, false, false] rfl rfl (any_of HT_.out (by kernel_rfl)) (fun _ _ _ h => h) (Or.inr ⟨by rfl, rfl⟩) ?_ ?_
                        rotate_left
                        · simp only [Act.put, List.setIfInBounds_toArray, List.set_cons_zero, List.set_cons_succ, i64_w, i32_w]
                          rfl
                        refine pure_ (i := 13) (N := some 129) (v := undef) (a' := ?_) #[true, true, true, true, true, true, true, true, true, true, true, true, true, true, false, false, false, false, false, false, false, false, false, false] rfl rfl (any_of HT_.out (by kernel_rfl)) (fun _ _ _ h => h) (Or.inr ⟨by rfl, rfl⟩) ?_ ?_
                        rotate_left
                        · simp only [Act.put, List.setIfInBounds_toArray, List.set_cons_zero, List.set_cons_succ, i64_w, i32_w]
                          rfl
                        refine pure_ (i := 14) (N := some 130) (v := undef) (a' := ?_) #[true, true, true, true, true, true, true, true, true, true, true, true, true, true, true, false, false, false, false, false, false, false, false, false] rfl rfl (any_of HT_.out (by kernel_rfl)) (fun _ _ _ h => h) (Or.inr ⟨by rfl, rfl⟩) ?_ ?_
                        rotate_left
                        · simp only [Act.put, List.setIfInBounds_toArray, List.set_cons_zero, List.set_cons_succ, i64_w, i32_w]
                          rfl
                        refine pure_ (i := 15) (N := some 131) (v := undef) (a' := ?_) #[true, true, true, true, true, true, true, true, true, true, true, true, true, true, true, true, false, false, false, false, false, false, false, false] rfl rfl (any_of HT_.out (by kernel_rfl)) (fun _ _ _ h => h) (Or.inr ⟨by rfl, rfl⟩) ?_ ?_
                        rotate_left
                        · simp only [Act.put, List.setIfInBounds_toArray, List.set_cons_zero, List.set_cons_succ, i64_w, i32_w]
                          rfl
                        refine pure_ (i := 16) (N := some 132) (v := ?_) (a' := ?_) #[true, true, true, true, true, true, true, true, true, true, true, true, true, true, true, true, true, false, false, false, false, false, false, false] rfl rfl (any_of HT_.out (by kernel_rfl)) (fun _ _ _ h => h) (Or.inl ⟨by rfl, ?_⟩) ?_ ?_
                        rotate_left
                        · intro w'
                          go_simp
                          with_reducible rfl
                        rotate_left
                        · simp only [Act.put, List.setIfInBounds_toArray, List.set_cons_zero, List.set_cons_succ, i64_w, i32_w]
                          rfl
                        refine pure_ (i := 17) (N := some 133) (v := ?_) (a' := ?_) #[true, true, true, true, true, true, true, true, true, true, true, true, true, true, true, true, true, true, false, false, false, false, false, false] rfl rfl (any_of HT_.out (by kernel_rfl)) (fun _ _ _ h => h) (Or.inl ⟨by rfl, ?_⟩) ?_ ?_
                        rotate_left
                        · intro w'
                          go_simp
                          with_reducible rfl
                        rotate_left
                        · simp only [Act.put, List.setIfInBounds_toArray, List.set_cons_zero, List.set_cons_succ, i64_w, i32_w]
                          rfl
                        refine pure_ (i := 18) (N := some 134) (v := undef) (a' := ?_) #[true, true, true, true, true, true, true, true, true, true, true, true, true, true, true, true, true, true, true, false, false, false, false, false] rfl rfl (any_of HT_.out (by kernel_rfl)) (fun _ _ _ h => h) (Or.inr ⟨by rfl, rfl⟩) ?_ ?_
                        rotate_left
                        · simp only [Act.put, List.setIfInBounds_toArray, List.set_cons_zero, List.set_cons_succ, i64_w, i32_w]
                          rfl
                        refine pure_ (i := 19) (N := some 135) (v := undef) (a' := ?_) #[true, true, true, true, true, true, true, true, true, true, true, true, true, true, true, true, true, true, true, true, false, false, false, false] rfl rfl (any_of HT_.out (by kernel_rfl)) (fun _ _ _ h => h) (Or.inr ⟨by rfl, rfl⟩) ?_ ?_
                        rotate_left
                        · simp only [Act.put, List.setIfInBounds_toArray, List.set_cons_zero, List.set_cons_succ, i64_w, i32_w]
                          rfl
                        refine pure_ (i := 20) (N := some 136) (v := undef) (a' := ?_) #[true, true, true, true, true, true, true, true, true, true, true, true, true, true, true, true, true, true, true, true, true, false, false, false] rfl rfl (any_of HT_.out (by kernel_rfl)) (fun _ _ _ h => h) (Or.inr ⟨by rfl, rfl⟩) ?_ ?_
                        rotate_left
                        · simp only [Act.put, List.setIfInBounds_toArray, List.set_cons_zero, List.set_cons_succ, i64_w, i32_w]
                          rfl
                        refine pure_ (i := 21) (N := some 137) (v := undef) (a' := ?_) #[true, true, true, true, true, true, true, true, true, true, true, true, true, true, true, true, true, true, true, true, true, true, false, false] rfl rfl (any_of HT_.out (by kernel_rfl)) (fun _ _ _ h => h) (Or.inr ⟨by rfl, rfl⟩) ?_ ?_
                        rotate_left
                        · simp only [Act.put, List.setIfInBounds_toArray, List.set_cons_zero, List.set_cons_succ, i64_w, i32_w]
                          rfl
                        refine pure_ (i := 22) (N := some 138) (v := undef) (a' := ?_) #[true, true, true, true, true, true, true, true, true, true, true, true, true, true, true, true, true, true, true, true, true, true, true, false] rfl rfl (any_of HT_.out (by kernel_rfl)) (fun _ _ _ h => h) (Or.inr ⟨by rfl, rfl⟩) ?_ ?_
                        rotate_left
                        · simp only [Act.put, List.setIfInBounds_toArray, List.set_cons_zero, List.set_cons_succ, i64_w, i32_w]
                          rfl
                        refine pure_ (i := 23) (N := some 139) (v := ?_) (a' := ?_) #[true, true, true, true, true, true, true, true, true, true, true, true, true, true, true, true, true, true, true, true, true, true, true, true] rfl rfl (any_of HT_.out (by kernel_rfl)) (fun _ _ _ h => h) (Or.inl ⟨by rfl, ?_⟩) ?_ ?_
                        rotate_left
                        · intro w'
                          go_simp
                          with_reducible rfl
                        rotate_left
                        · simp only [Act.put, List.setIfInBounds_toArray, List.set_cons_zero, List.set_cons_succ, i64_w, i32_w]
                          rfl
                        refine done_ (done_of HT_.out (by kernel_rfl)) ?_
                        try go_wp2
                        go_ret
                        exact ⟨by first | rfl | (simp [errW_none, errW_some] <;> rfl) | (simp [*, errW_none, errW_some] <;> rfl), by repeat (first | (with_reducible first | exact HB.out | apply below_alloc | apply pw_below_drewN | apply below_drew1 | refine below_set ?_ (IsS110.ge HI713.out) | refine below_set ?_ GE714.out | refine below_set ?_ GE716.out) | exact HB.out)⟩
                · rw [if_neg c20] at H
                  exact absurd H (by simp)
              · rw [if_neg c19] at H
                exact absurd H (by simp)
            · rw [if_neg c18] at H
              have c18b0 : decide (x41_2 < (l1.length : Int)) = false := decide_eq_false c18
              clear c18
              obtain rfl := Option.some.inj H
              go_wp2
              go_ret
              exact ⟨by first | rfl | (simp [errW_none, errW_some] <;> rfl) | (simp [*, errW_none, errW_some] <;> rfl), by repeat (first | (with_reducible first | exact HB.out | apply below_alloc | apply pw_below_drewN | apply below_drew1 | refine below_set ?_ (IsS110.ge HI713.out) | refine below_set ?_ GE714.out) | exact HB.out)⟩

end Go.Proofs.Ytegefemkmdlmaaa.P
