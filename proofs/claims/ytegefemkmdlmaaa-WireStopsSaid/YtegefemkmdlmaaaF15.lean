-- Printed by a program of this session (hand.py) out of the translation. Lean checks it.
import Derived.Test.YtegefemkmdlmaaaF0
import Derived.Test.YtegefemkmdlmaaaGa
namespace Go.Proofs.Ytegefemkmdlmaaa.P
open Go.RowKit Go.Proofs.YtegefemkmdlmaaaW.PrintWords Go.Proofs.YtegefemkmdlmaaaW.PrintLast Go.Proofs.YtegefemkmdlmaaaW.PrintMore
attribute [local go_sem] max2_int min2_int max_two min_two max_three min_three max_four min_four   -- for this text's walks alone
set_option linter.unusedVariables false
set_option linter.unusedSimpArgs false

/-! ### dasdlaw01_WireStops: function 15 -/
mutual
def dasdlaw01_WireStops.j0 : Nat → ByteArray → List (S71) → Bool → Option (Bool)
  | 0, _, _, _ => none
  | k + 1, x0, x1, x21 => if x21 = true then ((dasdlaw01_awake.f k).bind fun t763 => (some t763)) else ((wire_NewReader.f x0).bind fun bt764 => ((wire_Reader_Text.f bt764.1 bt764.2 (-1)).bind fun bt767 => ((wire_Reader_End.f bt767.2.1 bt767.2.2).bind fun bt770 => (if bt770.1 = 8 then (dasdlaw01_WireStops.j1 k x1 bt770.1 false bt770.2.1 bt770.2.2) else (dasdlaw01_WireStops.j1 k x1 bt770.1 (bt770.1 != 11) bt770.2.1 bt770.2.2)))))
def dasdlaw01_WireStops.j1 : Nat → List (S71) → Int → Bool → ByteArray → Int → Option (Bool)
  | 0, _, _, _, _, _ => none
  | k + 1, x1, x6, x36, x767000, x767001 => if x36 = true then (some false) else (dasdlaw01_WireStops.l0 k x6 x1 (x1.length : Int) 0 x767000 x767001)
def dasdlaw01_WireStops.l0 : Nat → Int → List (S71) → Int → Int → ByteArray → Int → Option (Bool)
  | 0, _, _, _, _, _, _ => none
  | k + 1, x6, x37, x38, x39, x767000, x767001 => if x39 < x38 then (if 0 ≤ x39 then (if x39 < (x37.length : Int) then (if (Int.tmod ((rd_T71 x37 x39).f0) 5) = 0 then ((wire_Reader_Number.f x767000 x767001).bind fun bt775 => (dasdlaw01_WireStops.j3 k x6 (bt775.1 == 0) x37 x38 x39 bt775.2.1 bt775.2.2)) else (if (Int.tmod ((rd_T71 x37 x39).f0) 5) = 1 then ((wire_Reader_Int.f x767000 x767001).bind fun bt778 => (dasdlaw01_WireStops.j3 k x6 (bt778.1 == 0) x37 x38 x39 bt778.2.1 bt778.2.2)) else (if (Int.tmod ((rd_T71 x37 x39).f0) 5) = 2 then ((wire_Reader_Bool.f x767000 x767001).bind fun bt781 => (dasdlaw01_WireStops.j3 k x6 (!bt781.1) x37 x38 x39 bt781.2.1 bt781.2.2)) else (if (Int.tmod ((rd_T71 x37 x39).f0) 5) = 3 then ((wire_Reader_Text.f x767000 x767001 ((rd_T71 x37 x39).f1)).bind fun bt784 => (dasdlaw01_WireStops.j3 k x6 (bt784.1.toList == ([] : List UInt8)) x37 x38 x39 bt784.2.1 bt784.2.2)) else (if (Int.tmod ((rd_T71 x37 x39).f0) 5) = 4 then ((wire_Reader_Count.f x767000 x767001 ((rd_T71 x37 x39).f1)).bind fun bt787 => (dasdlaw01_WireStops.j3 k x6 (bt787.1 == 0) x37 x38 x39 bt787.2.1 bt787.2.2)) else (dasdlaw01_WireStops.j3 k x6 false x37 x38 x39 x767000 x767001)))))) else (none)) else (none)) else (some true)
def dasdlaw01_WireStops.j3 : Nat → Int → Bool → List (S71) → Int → Int → ByteArray → Int → Option (Bool)
  | 0, _, _, _, _, _, _, _ => none
  | k + 1, x6, x9, x37, x38, x39, x767000, x767001 => if x9 = true then ((wire_Reader_End.f x767000 x767001).bind fun bt790 => (if bt790.1 = x6 then ((wire_Reader_Left.f bt790.2.1 bt790.2.2).bind fun bt793 => (if bt793.1 = 0 then ((wire_Reader_Rest.f bt793.2.1 bt793.2.2).bind fun bt796 => (if bt796.1.toList = ([] : List UInt8) then (dasdlaw01_WireStops.l0 k x6 x37 x38 (wrap64 (x39 + 1)) bt796.2.1 bt796.2.2) else (some false))) else (some false))) else (some false))) else (some false)
end
def dasdlaw01_WireStops.f (k : Nat) (a0 : ByteArray) (l1 : List (S71)) : Option (Bool) := (dasdlaw01_awake.f k).bind fun t762 => (if t762 = true then (if (a0.size : Int) > 300 then (dasdlaw01_WireStops.j0 k a0 l1 true) else (dasdlaw01_WireStops.j0 k a0 l1 (decide ((l1.length : Int) > 30)))) else (dasdlaw01_WireStops.j0 k a0 l1 true))
theorem dasdlaw01_WireStops.mono_l : ∀ k, (∀ y0 y1 y2, LeO (dasdlaw01_WireStops.j0 k y0 y1 y2) (dasdlaw01_WireStops.j0 (k + 1) y0 y1 y2)) ∧ (∀ y0 y1 y2 y3 y4, LeO (dasdlaw01_WireStops.j1 k y0 y1 y2 y3 y4) (dasdlaw01_WireStops.j1 (k + 1) y0 y1 y2 y3 y4)) ∧ (∀ y0 y1 y2 y3 y4 y5, LeO (dasdlaw01_WireStops.l0 k y0 y1 y2 y3 y4 y5) (dasdlaw01_WireStops.l0 (k + 1) y0 y1 y2 y3 y4 y5)) ∧ (∀ y0 y1 y2 y3 y4 y5 y6, LeO (dasdlaw01_WireStops.j3 k y0 y1 y2 y3 y4 y5 y6) (dasdlaw01_WireStops.j3 (k + 1) y0 y1 y2 y3 y4 y5 y6))
  | 0 => ⟨fun _ _ _ r h => by simp [dasdlaw01_WireStops.j0] at h, fun _ _ _ _ _ r h => by simp [dasdlaw01_WireStops.j1] at h, fun _ _ _ _ _ _ r h => by simp [dasdlaw01_WireStops.l0] at h, fun _ _ _ _ _ _ _ r h => by simp [dasdlaw01_WireStops.j3] at h⟩
  | k + 1 => by
    obtain ⟨ih0, ih1, ih2, ih3⟩ := dasdlaw01_WireStops.mono_l k
    refine ⟨?_, ?_, ?_, ?_⟩
    · intro y0 y1 y2
      unfold dasdlaw01_WireStops.j0
      repeat' first
      | (with_reducible exact ih0 _ _ _)
      | (with_reducible exact ih1 _ _ _ _ _)
      | (with_reducible exact ih2 _ _ _ _ _ _)
      | (with_reducible exact ih3 _ _ _ _ _ _ _)
      | (with_reducible exact dasdlaw01_awake.mono _)
      | (with_reducible exact LeO.refl _)
      | (with_reducible exact LeO.none _)
      | (with_reducible refine LeO.ite ?_ ?_)
      | (with_reducible refine LeO.bind ?_ (fun _ => ?_))
      | exact ih0 _ _ _
      | exact ih1 _ _ _ _ _
      | exact ih2 _ _ _ _ _ _
      | exact ih3 _ _ _ _ _ _ _
      | exact dasdlaw01_awake.mono _
      | exact LeO.none _
      | refine LeO.ite ?_ ?_
      | refine LeO.bind ?_ (fun _ => ?_)
    · intro y0 y1 y2 y3 y4
      unfold dasdlaw01_WireStops.j1
      repeat' first
      | (with_reducible exact ih0 _ _ _)
      | (with_reducible exact ih1 _ _ _ _ _)
      | (with_reducible exact ih2 _ _ _ _ _ _)
      | (with_reducible exact ih3 _ _ _ _ _ _ _)
      | (with_reducible exact dasdlaw01_awake.mono _)
      | (with_reducible exact LeO.refl _)
      | (with_reducible exact LeO.none _)
      | (with_reducible refine LeO.ite ?_ ?_)
      | (with_reducible refine LeO.bind ?_ (fun _ => ?_))
      | exact ih0 _ _ _
      | exact ih1 _ _ _ _ _
      | exact ih2 _ _ _ _ _ _
      | exact ih3 _ _ _ _ _ _ _
      | exact dasdlaw01_awake.mono _
      | exact LeO.none _
      | refine LeO.ite ?_ ?_
      | refine LeO.bind ?_ (fun _ => ?_)
    · intro y0 y1 y2 y3 y4 y5
      unfold dasdlaw01_WireStops.l0
      repeat' first
      | (with_reducible exact ih0 _ _ _)
      | (with_reducible exact ih1 _ _ _ _ _)
      | (with_reducible exact ih2 _ _ _ _ _ _)
      | (with_reducible exact ih3 _ _ _ _ _ _ _)
      | (with_reducible exact dasdlaw01_awake.mono _)
      | (with_reducible exact LeO.refl _)
      | (with_reducible exact LeO.none _)
      | (with_reducible refine LeO.ite ?_ ?_)
      | (with_reducible refine LeO.bind ?_ (fun _ => ?_))
      | exact ih0 _ _ _
      | exact ih1 _ _ _ _ _
      | exact ih2 _ _ _ _ _ _
      | exact ih3 _ _ _ _ _ _ _
      | exact dasdlaw01_awake.mono _
      | exact LeO.none _
      | refine LeO.ite ?_ ?_
      | refine LeO.bind ?_ (fun _ => ?_)
    · intro y0 y1 y2 y3 y4 y5 y6
      unfold dasdlaw01_WireStops.j3
      repeat' first
      | (with_reducible exact ih0 _ _ _)
      | (with_reducible exact ih1 _ _ _ _ _)
      | (with_reducible exact ih2 _ _ _ _ _ _)
      | (with_reducible exact ih3 _ _ _ _ _ _ _)
      | (with_reducible exact dasdlaw01_awake.mono _)
      | (with_reducible exact LeO.refl _)
      | (with_reducible exact LeO.none _)
      | (with_reducible refine LeO.ite ?_ ?_)
      | (with_reducible refine LeO.bind ?_ (fun _ => ?_))
      | exact ih0 _ _ _
      | exact ih1 _ _ _ _ _
      | exact ih2 _ _ _ _ _ _
      | exact ih3 _ _ _ _ _ _ _
      | exact dasdlaw01_awake.mono _
      | exact LeO.none _
      | refine LeO.ite ?_ ?_
      | refine LeO.bind ?_ (fun _ => ?_)
theorem dasdlaw01_WireStops.mono : ∀ a0 a1 k, LeO (dasdlaw01_WireStops.f k a0 a1) (dasdlaw01_WireStops.f (k + 1) a0 a1) := by
  intro a0 a1 k
  obtain ⟨ih0, ih1, ih2, ih3⟩ := dasdlaw01_WireStops.mono_l k
  unfold dasdlaw01_WireStops.f
  repeat' first
      | (with_reducible exact ih0 _ _ _)
      | (with_reducible exact ih1 _ _ _ _ _)
      | (with_reducible exact ih2 _ _ _ _ _ _)
      | (with_reducible exact ih3 _ _ _ _ _ _ _)
      | (with_reducible exact dasdlaw01_awake.mono _)
      | (with_reducible exact LeO.refl _)
      | (with_reducible exact LeO.none _)
      | (with_reducible refine LeO.ite ?_ ?_)
      | (with_reducible refine LeO.bind ?_ (fun _ => ?_))
      | exact ih0 _ _ _
      | exact ih1 _ _ _ _ _
      | exact ih2 _ _ _ _ _ _
      | exact ih3 _ _ _ _ _ _ _
      | exact dasdlaw01_awake.mono _
      | exact LeO.none _
      | refine LeO.ite ?_ ?_
      | refine LeO.bind ?_ (fun _ => ?_)
set_option maxHeartbeats 8000000 in
set_option maxRecDepth 100000 in
theorem dasdlaw01_WireStops.calls (k : Nat) (a0 : ByteArray) (A1 : Option Addr) (c1 : Nat) (l1 : List (S71)) (r : Bool) (w : World) (hr1 : Kd.C k71 w A1 l1.length l1) (hc1 : l1.length ≤ c1) (h : dasdlaw01_WireStops.f k a0 l1 = some r) :
    Calls Try.prog 15 #[.string a0, .slice A1 l1.length c1] w fun e w' => e = .returned (.bool r) ∧ Below w.heap.size w w' := by
  have hu71 := Try.underlying71
  have HR1 := Aside0.mk hr1
  have HC1 := Aside0.mk hc1
  clear hr1 hc1
  have HB := Aside0.mk (Below.refl w.heap.size w)
  have H : ((dasdlaw01_awake.f k).bind fun t762 => (if t762 = true then (if (a0.size : Int) > 300 then (dasdlaw01_WireStops.j0 k a0 l1 true) else (dasdlaw01_WireStops.j0 k a0 l1 (decide ((l1.length : Int) > 30)))) else (dasdlaw01_WireStops.j0 k a0 l1 true))) = some r := h
  clear h
  have HC3 := Aside0.mk H
  clear H
  go_enter Try.func15, Try.ntmps15
  go_upto_region 1 with (fail)
  go_cut [21] (fun v21 wc => ∃ (kq : Nat) (x21_2 : Bool), v21 = .bool x21_2 ∧ Aside0 (dasdlaw01_WireStops.j0 kq a0 l1 x21_2 = some r) ∧ Aside0 (kq ≤ k) ∧ Aside0 (Below w.heap.size w wc))
  case first =>
    have H := HC3.out
    clear HC3
    replace H := Option.bind_eq_some_iff.mp H
    obtain ⟨t762, A40, H⟩ := H
    replace H : (if t762 = true then (if (a0.size : Int) > 300 then (dasdlaw01_WireStops.j0 k a0 l1 true) else (dasdlaw01_WireStops.j0 k a0 l1 (decide ((l1.length : Int) > 30)))) else (dasdlaw01_WireStops.j0 k a0 l1 true)) = some r := H
    have A4 := Aside0.mk A40
    clear A40
    by_cases c5 : t762 = true
    · subst c5
      have H1 : (if (a0.size : Int) > 300 then (dasdlaw01_WireStops.j0 k a0 l1 true) else (dasdlaw01_WireStops.j0 k a0 l1 (decide ((l1.length : Int) > 30)))) = some r := by rw [if_pos rfl] at H; exact H
      clear H
      have H := H1
      clear H1
      by_cases c6 : (a0.size : Int) > 300
      · rw [if_pos c6] at H
        have c6b0 : decide (300 < (a0.size : Int)) = true := decide_eq_true c6
        have c6b1 : decide (300 < a0.size) = true := decide_eq_true (by omega)
        clear c6
        (first | rw [c6b0] | (simp only [i64_w, i32_w]; rw [c6b0]) | skip)
        have H' := Aside0.mk H
        clear H
        go_wp2_with (first | ((with_reducible refine gate_callee (f := 25) rfl ?_); refine goesL_ (some 10) rfl rfl Try.func25 (by kernel_rfl) rfl #[] rfl (by (try simp only [List.map_toArray, List.map_cons, List.map_nil]); first | done | rfl | (simp only [List.length_drop, List.length_take]; rfl)) ?_; (with_reducible refine (dasdlaw01_awake.calls k  true _ A4.out).mono ?_); rintro e w7 ⟨rfl, hb⟩; refine ⟨_, rfl, ?_⟩; have n0_ := Aside0.mk (below_step (by repeat (first | (with_reducible first | exact HB.out | apply below_alloc | apply pw_below_drewN | apply below_drew1) | exact HB.out)) hb); clear HB; have HB := n0_; clear n0_; (try clear hb); (try clear hb2); (try clear hk); (try clear hi)))
        go_meet
        case rel => exact ⟨_, (true), (by first | rfl | (simp; done) | (simp [*]; done)), H', ⟨by first | omega | exact Nat.le_refl _⟩, ⟨by repeat (first | (with_reducible first | exact HB.out | apply below_alloc | apply pw_below_drewN | apply below_drew1) | exact HB.out)⟩⟩
      · rw [if_neg c6] at H
        have c6b0 : decide (300 < (a0.size : Int)) = false := decide_eq_false c6
        have c6b1 : decide (300 < a0.size) = false := decide_eq_false (by omega)
        clear c6
        (first | rw [c6b0] | (simp only [i64_w, i32_w]; rw [c6b0]) | skip)
        have H' := Aside0.mk H
        clear H
        go_wp2_with (first | ((with_reducible refine gate_callee (f := 25) rfl ?_); refine goesL_ (some 10) rfl rfl Try.func25 (by kernel_rfl) rfl #[] rfl (by (try simp only [List.map_toArray, List.map_cons, List.map_nil]); first | done | rfl | (simp only [List.length_drop, List.length_take]; rfl)) ?_; (with_reducible refine (dasdlaw01_awake.calls k  true _ A4.out).mono ?_); rintro e w8 ⟨rfl, hb⟩; refine ⟨_, rfl, ?_⟩; have n0_ := Aside0.mk (below_step (by repeat (first | (with_reducible first | exact HB.out | apply below_alloc | apply pw_below_drewN | apply below_drew1) | exact HB.out)) hb); clear HB; have HB := n0_; clear n0_; (try clear hb); (try clear hb2); (try clear hk); (try clear hi)))
        go_meet
        case rel => exact ⟨_, (decide ((l1.length : Int) > 30)), (by first | rfl | (simp; done) | (simp [*]; done)), H', ⟨by first | omega | exact Nat.le_refl _⟩, ⟨by repeat (first | (with_reducible first | exact HB.out | apply below_alloc | apply pw_below_drewN | apply below_drew1) | exact HB.out)⟩⟩
    · replace c5 := Bool.eq_false_iff.mpr c5
      subst c5
      have H1 : (dasdlaw01_WireStops.j0 k a0 l1 true) = some r := by rw [if_neg (show ¬ (false = true) by decide)] at H; exact H
      clear H
      have H := H1
      clear H1
      have H' := Aside0.mk H
      clear H
      go_wp2_with (first | ((with_reducible refine gate_callee (f := 25) rfl ?_); refine goesL_ (some 10) rfl rfl Try.func25 (by kernel_rfl) rfl #[] rfl (by (try simp only [List.map_toArray, List.map_cons, List.map_nil]); first | done | rfl | (simp only [List.length_drop, List.length_take]; rfl)) ?_; (with_reducible refine (dasdlaw01_awake.calls k  false _ A4.out).mono ?_); rintro e w9 ⟨rfl, hb⟩; refine ⟨_, rfl, ?_⟩; have n0_ := Aside0.mk (below_step (by repeat (first | (with_reducible first | exact HB.out | apply below_alloc | apply pw_below_drewN | apply below_drew1) | exact HB.out)) hb); clear HB; have HB := n0_; clear n0_; (try clear hb); (try clear hb2); (try clear hk); (try clear hi)))
      go_meet
      case rel => exact ⟨_, (true), (by first | rfl | (simp; done) | (simp [*]; done)), H', ⟨by first | omega | exact Nat.le_refl _⟩, ⟨by repeat (first | (with_reducible first | exact HB.out | apply below_alloc | apply pw_below_drewN | apply below_drew1) | exact HB.out)⟩⟩
  case rest =>
    clear HC3
    try clear c1
    try clear c2
    try clear p2
    try clear c5
    try clear c6
    try clear c6b0
    try clear c6b1
    obtain ⟨kq, x21_2, rfl, HA, HJ2, HB⟩ := hcut
    cases kq with
    | zero => exact absurd HA.out (by simp [dasdlaw01_WireStops.j0])
    | succ kj2 =>
      have H := HA.out
      clear HA
      simp only [dasdlaw01_WireStops.j0] at H
      by_cases c10 : x21_2 = true
      · subst c10
        have H1 : ((dasdlaw01_awake.f kj2).bind fun t763 => (some t763)) = some r := by rw [if_pos rfl] at H; exact H
        clear H
        have H := H1
        clear H1
        replace H := Option.bind_eq_some_iff.mp H
        obtain ⟨t763, A110, H⟩ := H
        replace H : (some t763) = some r := H
        have A11 := Aside0.mk A110
        clear A110
        obtain rfl := Option.some.inj H
        go_wp2_with (first | ((with_reducible refine gate_callee (f := 25) rfl ?_); refine goesL_ (some 22) rfl rfl Try.func25 (by kernel_rfl) rfl #[] rfl (by (try simp only [List.map_toArray, List.map_cons, List.map_nil]); first | done | rfl | (simp only [List.length_drop, List.length_take]; rfl)) ?_; (with_reducible refine (dasdlaw01_awake.calls kj2  t763 _ A11.out).mono ?_); rintro e w12 ⟨rfl, hb⟩; refine ⟨_, rfl, ?_⟩; have n0_ := Aside0.mk (below_step (by repeat (first | (with_reducible first | exact HB.out | apply below_alloc | apply pw_below_drewN | apply below_drew1) | exact HB.out)) hb); clear HB; have HB := n0_; clear n0_; (try clear hb); (try clear hb2); (try clear hk); (try clear hi)))
        go_ret
        exact ⟨by first | rfl | (simp [errW_none, errW_some] <;> rfl) | (simp [*, errW_none, errW_some] <;> rfl), by repeat (first | (with_reducible first | exact HB.out | apply below_alloc | apply pw_below_drewN | apply below_drew1) | exact HB.out)⟩
      · replace c10 := Bool.eq_false_iff.mpr c10
        subst c10
        have H1 : ((wire_NewReader.f a0).bind fun bt764 => ((wire_Reader_Text.f bt764.1 bt764.2 (-1)).bind fun bt767 => ((wire_Reader_End.f bt767.2.1 bt767.2.2).bind fun bt770 => (if bt770.1 = 8 then (dasdlaw01_WireStops.j1 kj2 l1 bt770.1 false bt770.2.1 bt770.2.2) else (dasdlaw01_WireStops.j1 kj2 l1 bt770.1 (bt770.1 != 11) bt770.2.1 bt770.2.2))))) = some r := by rw [if_neg (show ¬ (false = true) by decide)] at H; exact H
        clear H
        have H := H1
        clear H1
        replace H := Option.bind_eq_some_iff.mp H
        obtain ⟨⟨t764, t765⟩, A130, H⟩ := H
        replace H : ((wire_Reader_Text.f t764 t765 (-1)).bind fun bt767 => ((wire_Reader_End.f bt767.2.1 bt767.2.2).bind fun bt770 => (if bt770.1 = 8 then (dasdlaw01_WireStops.j1 kj2 l1 bt770.1 false bt770.2.1 bt770.2.2) else (dasdlaw01_WireStops.j1 kj2 l1 bt770.1 (bt770.1 != 11) bt770.2.1 bt770.2.2)))) = some r := H
        have A13 := Aside0.mk A130
        clear A130
        replace H := Option.bind_eq_some_iff.mp H
        obtain ⟨⟨t767, t768, t769⟩, A140, H⟩ := H
        replace H : ((wire_Reader_End.f t768 t769).bind fun bt770 => (if bt770.1 = 8 then (dasdlaw01_WireStops.j1 kj2 l1 bt770.1 false bt770.2.1 bt770.2.2) else (dasdlaw01_WireStops.j1 kj2 l1 bt770.1 (bt770.1 != 11) bt770.2.1 bt770.2.2))) = some r := H
        have A14 := Aside0.mk A140
        clear A140
        replace H := Option.bind_eq_some_iff.mp H
        obtain ⟨⟨t770, t771, t772⟩, A150, H⟩ := H
        replace H : (if t770 = 8 then (dasdlaw01_WireStops.j1 kj2 l1 t770 false t771 t772) else (dasdlaw01_WireStops.j1 kj2 l1 t770 (t770 != 11) t771 t772)) = some r := H
        have A15 := Aside0.mk A150
        clear A150
        have HC16 := Aside0.mk H
        clear H
        go_upto_region 8 with (first | ((with_reducible refine gate_callee (f := 62) rfl ?_); refine goesL_ (some 24) rfl rfl Try.func62 (by kernel_rfl) rfl #[.string a0] rfl (by (try simp only [List.map_toArray, List.map_cons, List.map_nil]); first | done | rfl | (simp only [List.length_drop, List.length_take]; rfl)) ?_; (with_reducible refine (wire_NewReader.calls a0 t764 t765 w _ ?side1 A13.out).mono ?_); (case side1 => repeat (first | (with_reducible first | exact HB.out | apply below_alloc | apply pw_below_drewN | apply below_drew1) | exact HB.out)); rintro e w17 ⟨g766, rfl, hi, hb, hb2⟩; refine ⟨_, rfl, ?_⟩; have n0_ := Aside0.mk (hb); have n1_ := Aside0.mk (hi); clear HB; have HB := n0_; have HI766 := n1_; clear n0_ n1_; (try clear hb); (try clear hb2); (try clear hk); (try clear hi)) | ((with_reducible refine gate_callee (f := 64) rfl ?_); refine goesL_ (some 28) rfl rfl Try.func64 (by kernel_rfl) rfl #[.pointer (some ⟨g766, 0, none⟩), .int .i64 (-1)] rfl (by (try simp only [List.map_toArray, List.map_cons, List.map_nil]); first | done | rfl | (simp only [List.length_drop, List.length_take]; rfl)) ?_; (with_reducible refine (wire_Reader_Text.calls g766 t764 t765 (-1) t767 t768 t769 w _ ?side1 ?side2 A14.out).mono ?_); (case side1 => repeat (first | (with_reducible first | exact HI766.out | apply IsS110.alloc | apply IsS110.drewN | apply IsS110.drew | apply IsS110.set_0 | apply IsS110.set_1) | exact HI766.out)); (case side2 => repeat (first | (with_reducible first | exact HB.out | apply below_alloc | apply pw_below_drewN | apply below_drew1 | refine below_set ?_ (IsS110.ge HI766.out)) | exact HB.out)); rintro e w18 ⟨rfl, hi, hb, hk⟩; refine ⟨_, rfl, ?_⟩; have n0_ := Aside0.mk (hb); have n1_ := Aside0.mk (hi); clear HB; clear HI766; have HB := n0_; have HI766 := n1_; clear n0_ n1_; (try clear hb); (try clear hb2); (try clear hk); (try clear hi)) | ((with_reducible refine gate_callee (f := 65) rfl ?_); refine goesL_ (some 30) rfl rfl Try.func65 (by kernel_rfl) rfl #[.pointer (some ⟨g766, 0, none⟩)] rfl (by (try simp only [List.map_toArray, List.map_cons, List.map_nil]); first | done | rfl | (simp only [List.length_drop, List.length_take]; rfl)) ?_; (with_reducible refine (wire_Reader_End.calls g766 t768 t769 t770 t771 t772 w _ ?side1 ?side2 A15.out).mono ?_); (case side1 => repeat (first | (with_reducible first | exact HI766.out | apply IsS110.alloc | apply IsS110.drewN | apply IsS110.drew | apply IsS110.set_0 | apply IsS110.set_1) | exact HI766.out)); (case side2 => repeat (first | (with_reducible first | exact HB.out | apply below_alloc | apply pw_below_drewN | apply below_drew1 | refine below_set ?_ (IsS110.ge HI766.out)) | exact HB.out)); rintro e w19 ⟨rfl, hi, hb, hk⟩; refine ⟨_, rfl, ?_⟩; have n0_ := Aside0.mk (hb); have n1_ := Aside0.mk (hi); clear HB; clear HI766; have HB := n0_; have HI766 := n1_; clear n0_ n1_; (try clear hb); (try clear hb2); (try clear hk); (try clear hi)))
        (try simp only [Act.put, List.setIfInBounds_toArray, List.set_cons_zero, List.set_cons_succ])
        go_cut [36] (fun v36 wc => ∃ (kq : Nat) (x36_15 : Bool), v36 = .bool x36_15 ∧ Aside0 (dasdlaw01_WireStops.j1 kq l1 t770 x36_15 t771 t772 = some r) ∧ Aside0 (kq ≤ kj2) ∧ Aside0 (IsS110 w wc g766 t771 t772) ∧ Aside0 (Below w.heap.size w wc))
        case first =>
          have H := HC16.out
          clear HC16
          by_cases c20 : t770 = 8
          · rw [if_pos c20] at H
            have c20b0 : (t770 == 8) = true := beq_iff_eq.mpr c20
            have c20b1 : (t770 != 8) = false := bne_eq_false_iff_eq.mpr c20
            clear c20
            (first | rw [c20b0] | (simp only [i64_w, i32_w]; rw [c20b0]) | skip)
            have H' := Aside0.mk H
            clear H
            go_wp2
            go_meet
            case rel => exact ⟨_, (false), (by first | rfl | (simp; done) | (simp [*]; done)), H', ⟨by have := HJ2.out; first | omega | exact Nat.le_refl _⟩, ⟨by repeat (first | (with_reducible first | exact HI766.out | apply IsS110.alloc | apply IsS110.drewN | apply IsS110.drew | apply IsS110.set_0 | apply IsS110.set_1) | exact HI766.out)⟩, ⟨by repeat (first | (with_reducible first | exact HB.out | apply below_alloc | apply pw_below_drewN | apply below_drew1 | refine below_set ?_ (IsS110.ge HI766.out)) | exact HB.out)⟩⟩
          · rw [if_neg c20] at H
            have c20b0 : (t770 == 8) = false := beq_eq_false_iff_ne.mpr c20
            have c20b1 : (t770 != 8) = true := bne_iff_ne.mpr c20
            (first | rw [c20b0] | (simp only [i64_w, i32_w]; rw [c20b0]) | skip)
            have H' := Aside0.mk H
            clear H
            go_wp2
            go_meet
            case rel => exact ⟨_, ((t770 != 11)), (by first | rfl | (simp; done) | (simp [*]; done)), H', ⟨by have := HJ2.out; first | omega | exact Nat.le_refl _⟩, ⟨by repeat (first | (with_reducible first | exact HI766.out | apply IsS110.alloc | apply IsS110.drewN | apply IsS110.drew | apply IsS110.set_0 | apply IsS110.set_1) | exact HI766.out)⟩, ⟨by repeat (first | (with_reducible first | exact HB.out | apply below_alloc | apply pw_below_drewN | apply below_drew1 | refine below_set ?_ (IsS110.ge HI766.out)) | exact HB.out)⟩⟩
        case rest =>
          clear HC16
          try clear c1
          try clear c2
          try clear p2
          try clear c5
          try clear c6
          try clear c6b0
          try clear c6b1
          try clear c10
          try clear c15
          try clear c20
          try clear c20b0
          try clear c20b1
          try clear p2
          obtain ⟨kq, x36_15, rfl, HA, HJ15, HI766, HB⟩ := hcut
          cases kq with
          | zero => exact absurd HA.out (by simp [dasdlaw01_WireStops.j1])
          | succ kj15 =>
            have H := HA.out
            clear HA
            simp only [dasdlaw01_WireStops.j1] at H
            by_cases c21 : x36_15 = true
            · subst c21
              have H1 : (some false) = some r := by rw [if_pos rfl] at H; exact H
              clear H
              have H := H1
              clear H1
              obtain rfl := Option.some.inj H
              go_wp2
              go_ret
              exact ⟨by first | rfl | (simp [errW_none, errW_some] <;> rfl) | (simp [*, errW_none, errW_some] <;> rfl), by repeat (first | (with_reducible first | exact HB.out | apply below_alloc | apply pw_below_drewN | apply below_drew1 | refine below_set ?_ (IsS110.ge HI766.out)) | exact HB.out)⟩
            · replace c21 := Bool.eq_false_iff.mpr c21
              subst c21
              have H1 : (dasdlaw01_WireStops.l0 kj15 t770 l1 (l1.length : Int) 0 t771 t772) = some r := by rw [if_neg (show ¬ (false = true) by decide)] at H; exact H
              clear H
              have H := H1
              clear H1
              have H' := Aside0.mk H
              clear H
              go_wp2
              go_loopg [39] kj15 (fun kq v39 w' => ∃ (x39_3 : Int) (x767000_3 : ByteArray) (x767001_3 : Int), v39 = .int .i64 x39_3 ∧ Aside0 (dasdlaw01_WireStops.l0 kq t770 l1 (l1.length : Int) x39_3 x767000_3 x767001_3 = some r) ∧ Aside0 (kq ≤ kj15) ∧ Aside0 (IsS110 w w' g766 x767000_3 x767001_3) ∧ Aside0 (Below w.heap.size w w'))
              case atStart => exact ⟨(0), (t771), (t772), (by first | rfl | (simp; done) | (simp [*]; done)), H', ⟨Nat.le_refl _⟩, ⟨by repeat (first | (with_reducible first | exact HI766.out | apply IsS110.alloc | apply IsS110.drewN | apply IsS110.drew | apply IsS110.set_0 | apply IsS110.set_1) | exact HI766.out)⟩, ⟨by repeat (first | (with_reducible first | exact HB.out | apply below_alloc | apply pw_below_drewN | apply below_drew1 | refine below_set ?_ (IsS110.ge HI766.out)) | exact HB.out)⟩⟩
              case round =>
                clear H'
                try clear c1
                try clear c2
                try clear p2
                try clear c5
                try clear c6
                try clear c6b0
                try clear c6b1
                try clear c10
                try clear c15
                try clear c20
                try clear c20b0
                try clear c20b1
                try clear c21
                try clear p2
                obtain ⟨x39_3, x767000_3, x767001_3, rfl, HA, HK3, HI766, HB⟩ := hrel
                cases gk with
                | zero => exact absurd HA.out (by simp [dasdlaw01_WireStops.l0])
                | succ k3 =>
                  have H := HA.out
                  clear HA
                  simp only [dasdlaw01_WireStops.l0] at H
                  by_cases c22 : x39_3 < (l1.length : Int)
                  · rw [if_pos c22] at H
                    have c22b0 : decide (x39_3 < (l1.length : Int)) = true := decide_eq_true c22
                    clear c22
                    by_cases c23 : 0 ≤ x39_3
                    · rw [if_pos c23] at H
                      have c23b0 : decide (0 ≤ x39_3) = true := decide_eq_true c23
                      clear c23
                      by_cases c24 : x39_3 < (l1.length : Int)
                      · rw [if_pos c24] at H
                        have c24b0 : decide (x39_3 < (l1.length : Int)) = true := decide_eq_true c24
                        clear c24
                        have HC25 := Aside0.mk H
                        clear H
                        have p773 : 0 ≤ (x39_3 : Int) := of_decide_eq_true (by first | (with_reducible assumption) | assumption)
                        have q773 : x39_3 < (l1.length : Int) := of_decide_eq_true (by first | (with_reducible assumption) | assumption)
                        obtain ⟨ad773, e773, hx773_0, hx773_1⟩ := at_T71 HR1.out x39_3 p773 q773
                        cases e773
                        replace hx773_0 := (HB.out.cell (World.block_lt_of_cell? w _ hx773_0)).trans hx773_0
                        replace hx773_1 := (HB.out.cell (World.block_lt_of_cell? w _ hx773_1)).trans hx773_1
                        replace p773 := eq_true p773
                        replace q773 := eq_true q773
                        go_upto_block 2 with (first | ((with_reducible refine gate_dst (N := 8) rfl ?_); (try (refine gate_guard (by rfl) ?_; dsimp only)); refine box_event ?hg (N := 8) ?hd (cs := #[.int .u8 0, .int .i64 0]) (t := 71) ?hr ?_; (case hd => rfl); (case hg => rfl); (case hr => first | (go_simp; done) | (go_simp; rfl)); intro gb774 hg w26 hbox hb; have n0_ := Aside0.mk (IsS110.below (by repeat (first | (with_reducible first | exact HI766.out | apply IsS110.alloc | apply IsS110.drewN | apply IsS110.drew | apply IsS110.set_0 | apply IsS110.set_1) | exact HI766.out)) hb); have n1_ := Aside0.mk (below_step (by repeat (first | (with_reducible first | exact HB.out | apply below_alloc | apply pw_below_drewN | apply below_drew1 | refine below_set ?_ (IsS110.ge HI766.out)) | exact HB.out)) hb); have n2_ := Aside0.mk (hbox); have n3_ := Aside0.mk ((by rw [hg]; exact (below_size (by repeat (first | (with_reducible first | exact HB.out | apply below_alloc | apply pw_below_drewN | apply below_drew1 | refine below_set ?_ (IsS110.ge HI766.out)) | exact HB.out))) : w.heap.size ≤ gb774)); have n4_ := Aside0.mk ((by rw [hg]; exact (below_size (by repeat (first | (with_reducible first | exact HB.out | apply below_alloc | apply pw_below_drewN | apply below_drew1 | refine below_set ?_ (IsS110.ge HI766.out)) | exact HB.out))) : w.heap.size ≤ gb774)); have n5_ := Aside0.mk ((by rw [hg]; exact Nat.ne_of_lt (IsS110.lt (show IsS110 w _ g766 x767000_3 x767001_3 from by repeat (first | (with_reducible first | exact HI766.out | apply IsS110.alloc | apply IsS110.drewN | apply IsS110.drew | apply IsS110.set_0 | apply IsS110.set_1) | exact HI766.out))) : g766 ≠ gb774)); have n6_ := Aside0.mk ((by rw [hg]; exact Nat.ne_of_gt (IsS110.lt (show IsS110 w _ g766 x767000_3 x767001_3 from by repeat (first | (with_reducible first | exact HI766.out | apply IsS110.alloc | apply IsS110.drewN | apply IsS110.drew | apply IsS110.set_0 | apply IsS110.set_1) | exact HI766.out))) : gb774 ≠ g766)); clear HI766; clear HB; have HI766 := n0_; have HB := n1_; have BK774 := n2_; have GW774 := n3_; have GE774 := n4_; have NB766_774 := n5_; have NB774_766 := n6_; clear n0_ n1_ n2_ n3_ n4_ n5_ n6_; clear hb hbox hg; have hnb27 := NB774_766.out; have hnc27 := NB766_774.out; have hcz28_0 : w26.cell? ⟨gb774, 0, none⟩ = some (.int .u8 0) := (blk_cell BK774.out 0).trans rfl; have hcz28_1 : w26.cell? ⟨gb774, 1, none⟩ = some (.int .i64 0) := (blk_cell BK774.out 1).trans rfl; have hfz28_0 := blk_frozen BK774.out 0; have hfz28_1 := blk_frozen BK774.out 1))
                        (try simp only [Act.put, List.setIfInBounds_toArray, List.set_cons_zero, List.set_cons_succ])
                        go_cut [9] (fun v9 wc => ∃ (kq : Nat) (x9_24 : Bool) (x767000_24 : ByteArray) (x767001_24 : Int), v9 = .bool x9_24 ∧ Aside0 (dasdlaw01_WireStops.j3 kq t770 x9_24 l1 (l1.length : Int) x39_3 x767000_24 x767001_24 = some r) ∧ Aside0 (kq ≤ k3) ∧ Aside0 (wc.heap[gb774]? = some (.cells #[.int .u8 ((rd_T71 l1 x39_3).f0), .int .i64 ((rd_T71 l1 x39_3).f1)] 71 (0, 0))) ∧ Aside0 (IsS110 w wc g766 x767000_24 x767001_24) ∧ Aside0 (Below w.heap.size w wc))
                        case first =>
                          have H := HC25.out
                          clear HC25
                          by_cases c29 : (Int.tmod ((rd_T71 l1 x39_3).f0) 5) = 0
                          · rw [if_pos c29] at H
                            have c29b0 : ((Int.tmod ((rd_T71 l1 x39_3).f0) 5) == 0) = true := beq_iff_eq.mpr c29
                            have c29b1 : ((Int.tmod ((rd_T71 l1 x39_3).f0) 5) != 0) = false := bne_eq_false_iff_eq.mpr c29
                            clear c29
                            (first | rw [c29b0] | (simp only [i64_w, i32_w]; rw [c29b0]) | skip)
                            replace H := Option.bind_eq_some_iff.mp H
                            obtain ⟨⟨t775, t776, t777⟩, A300, H⟩ := H
                            replace H : (dasdlaw01_WireStops.j3 k3 t770 (t775 == 0) l1 (l1.length : Int) x39_3 t776 t777) = some r := H
                            have A30 := Aside0.mk A300
                            clear A300
                            have H' := Aside0.mk H
                            clear H
                            go_wp2_with (first | ((with_reducible refine gate_callee (f := 71) rfl ?_); refine goesL_ (some 49) rfl rfl Try.func71 (by kernel_rfl) rfl #[.pointer (some ⟨g766, 0, none⟩)] rfl (by (try simp only [List.map_toArray, List.map_cons, List.map_nil]); first | done | rfl | (simp only [List.length_drop, List.length_take]; rfl)) ?_; (with_reducible refine (wire_Reader_Number.calls g766 x767000_3 x767001_3 t775 t776 t777 w _ ?side1 ?side2 A30.out).mono ?_); (case side1 => repeat (first | (with_reducible first | exact HI766.out | apply IsS110.alloc | apply IsS110.drewN | apply IsS110.drew | apply IsS110.set_0 | apply IsS110.set_1 | refine IsS110.far ?_ NB766_774.out _) | exact HI766.out)); (case side2 => repeat (first | (with_reducible first | exact HB.out | apply below_alloc | apply pw_below_drewN | apply below_drew1 | refine below_set ?_ (IsS110.ge HI766.out) | refine below_set ?_ GE774.out) | exact HB.out)); rintro e w31 ⟨rfl, hi, hb, hk⟩; refine ⟨_, rfl, ?_⟩; have n0_ := Aside0.mk (KeepBut.blk hk (g' := gb774) (o := .cells #[.int .u8 ((rd_T71 l1 x39_3).f0), .int .i64 ((rd_T71 l1 x39_3).f1)] 71 (0, 0)) (by (with_reducible repeat (first | refine blk_drewN ?_ _ | refine blk_drew ?_ | refine blk_alloc ?_ _)); refine blk_put (cs := #[.int .u8 ((rd_T71 l1 x39_3).f0), .int .i64 0]) ?_ 1 _ rfl; (with_reducible repeat (first | refine blk_drewN ?_ _ | refine blk_drew ?_ | refine blk_alloc ?_ _)); refine blk_put (cs := #[.int .u8 0, .int .i64 0]) ?_ 0 _ rfl; (with_reducible repeat (first | refine blk_drewN ?_ _ | refine blk_drew ?_ | refine blk_alloc ?_ _)); exact BK774.out) NB774_766.out (by simp)); have n1_ := Aside0.mk (hb); have n2_ := Aside0.mk (hi); clear BK774; clear HB; clear HI766; have BK774 := n0_; have HB := n1_; have HI766 := n2_; clear n0_ n1_ n2_; (try clear hb); (try clear hb2); (try clear hk); (try clear hi)))
                            go_meet
                            case rel => exact ⟨_, ((t775 == 0)), (t776), (t777), (by first | rfl | (simp; done) | (simp [*]; done)), H', ⟨by have := HJ2.out; have := HJ15.out; have := HK3.out; first | omega | exact Nat.le_refl _⟩, ⟨by (with_reducible repeat (first | refine blk_drewN ?_ _ | refine blk_drew ?_ | refine blk_alloc ?_ _)); exact BK774.out⟩, ⟨by repeat (first | (with_reducible first | exact HI766.out | apply IsS110.alloc | apply IsS110.drewN | apply IsS110.drew | apply IsS110.set_0 | apply IsS110.set_1 | refine IsS110.far ?_ NB766_774.out _) | exact HI766.out)⟩, ⟨by repeat (first | (with_reducible first | exact HB.out | apply below_alloc | apply pw_below_drewN | apply below_drew1 | refine below_set ?_ (IsS110.ge HI766.out) | refine below_set ?_ GE774.out) | exact HB.out)⟩⟩
                          · rw [if_neg c29] at H
                            have c29b0 : ((Int.tmod ((rd_T71 l1 x39_3).f0) 5) == 0) = false := beq_eq_false_iff_ne.mpr c29
                            have c29b1 : ((Int.tmod ((rd_T71 l1 x39_3).f0) 5) != 0) = true := bne_iff_ne.mpr c29
                            (first | rw [c29b0] | (simp only [i64_w, i32_w]; rw [c29b0]) | skip)
                            by_cases c32 : (Int.tmod ((rd_T71 l1 x39_3).f0) 5) = 1
                            · rw [if_pos c32] at H
                              have c32b0 : ((Int.tmod ((rd_T71 l1 x39_3).f0) 5) == 1) = true := beq_iff_eq.mpr c32
                              have c32b1 : ((Int.tmod ((rd_T71 l1 x39_3).f0) 5) != 1) = false := bne_eq_false_iff_eq.mpr c32
                              clear c32
                              replace H := Option.bind_eq_some_iff.mp H
                              obtain ⟨⟨t778, t779, t780⟩, A330, H⟩ := H
                              replace H : (dasdlaw01_WireStops.j3 k3 t770 (t778 == 0) l1 (l1.length : Int) x39_3 t779 t780) = some r := H
                              have A33 := Aside0.mk A330
                              clear A330
                              have H' := Aside0.mk H
                              clear H
                              go_wp2_with (first | ((with_reducible refine gate_callee (f := 73) rfl ?_); refine goesL_ (some 54) rfl rfl Try.func73 (by kernel_rfl) rfl #[.pointer (some ⟨g766, 0, none⟩)] rfl (by (try simp only [List.map_toArray, List.map_cons, List.map_nil]); first | done | rfl | (simp only [List.length_drop, List.length_take]; rfl)) ?_; (with_reducible refine (wire_Reader_Int.calls g766 x767000_3 x767001_3 t778 t779 t780 w _ ?side1 ?side2 A33.out).mono ?_); (case side1 => repeat (first | (with_reducible first | exact HI766.out | apply IsS110.alloc | apply IsS110.drewN | apply IsS110.drew | apply IsS110.set_0 | apply IsS110.set_1 | refine IsS110.far ?_ NB766_774.out _) | exact HI766.out)); (case side2 => repeat (first | (with_reducible first | exact HB.out | apply below_alloc | apply pw_below_drewN | apply below_drew1 | refine below_set ?_ (IsS110.ge HI766.out) | refine below_set ?_ GE774.out) | exact HB.out)); rintro e w34 ⟨rfl, hi, hb, hk⟩; refine ⟨_, rfl, ?_⟩; have n0_ := Aside0.mk (KeepBut.blk hk (g' := gb774) (o := .cells #[.int .u8 ((rd_T71 l1 x39_3).f0), .int .i64 ((rd_T71 l1 x39_3).f1)] 71 (0, 0)) (by (with_reducible repeat (first | refine blk_drewN ?_ _ | refine blk_drew ?_ | refine blk_alloc ?_ _)); refine blk_put (cs := #[.int .u8 ((rd_T71 l1 x39_3).f0), .int .i64 0]) ?_ 1 _ rfl; (with_reducible repeat (first | refine blk_drewN ?_ _ | refine blk_drew ?_ | refine blk_alloc ?_ _)); refine blk_put (cs := #[.int .u8 0, .int .i64 0]) ?_ 0 _ rfl; (with_reducible repeat (first | refine blk_drewN ?_ _ | refine blk_drew ?_ | refine blk_alloc ?_ _)); exact BK774.out) NB774_766.out (by simp)); have n1_ := Aside0.mk (hb); have n2_ := Aside0.mk (hi); clear BK774; clear HB; clear HI766; have BK774 := n0_; have HB := n1_; have HI766 := n2_; clear n0_ n1_ n2_; (try clear hb); (try clear hb2); (try clear hk); (try clear hi)))
                              go_meet
                              case rel => exact ⟨_, ((t778 == 0)), (t779), (t780), (by first | rfl | (simp; done) | (simp [*]; done)), H', ⟨by have := HJ2.out; have := HJ15.out; have := HK3.out; first | omega | exact Nat.le_refl _⟩, ⟨by (with_reducible repeat (first | refine blk_drewN ?_ _ | refine blk_drew ?_ | refine blk_alloc ?_ _)); exact BK774.out⟩, ⟨by repeat (first | (with_reducible first | exact HI766.out | apply IsS110.alloc | apply IsS110.drewN | apply IsS110.drew | apply IsS110.set_0 | apply IsS110.set_1 | refine IsS110.far ?_ NB766_774.out _) | exact HI766.out)⟩, ⟨by repeat (first | (with_reducible first | exact HB.out | apply below_alloc | apply pw_below_drewN | apply below_drew1 | refine below_set ?_ (IsS110.ge HI766.out) | refine below_set ?_ GE774.out) | exact HB.out)⟩⟩
                            · rw [if_neg c32] at H
                              have c32b0 : ((Int.tmod ((rd_T71 l1 x39_3).f0) 5) == 1) = false := beq_eq_false_iff_ne.mpr c32
                              have c32b1 : ((Int.tmod ((rd_T71 l1 x39_3).f0) 5) != 1) = true := bne_iff_ne.mpr c32
                              by_cases c35 : (Int.tmod ((rd_T71 l1 x39_3).f0) 5) = 2
                              · rw [if_pos c35] at H
                                have c35b0 : ((Int.tmod ((rd_T71 l1 x39_3).f0) 5) == 2) = true := beq_iff_eq.mpr c35
                                have c35b1 : ((Int.tmod ((rd_T71 l1 x39_3).f0) 5) != 2) = false := bne_eq_false_iff_eq.mpr c35
                                clear c35
                                replace H := Option.bind_eq_some_iff.mp H
                                obtain ⟨⟨t781, t782, t783⟩, A360, H⟩ := H
                                replace H : (dasdlaw01_WireStops.j3 k3 t770 (!t781) l1 (l1.length : Int) x39_3 t782 t783) = some r := H
                                have A36 := Aside0.mk A360
                                clear A360
                                have H' := Aside0.mk H
                                clear H
                                go_wp2_with (first | ((with_reducible refine gate_callee (f := 75) rfl ?_); refine goesL_ (some 59) rfl rfl Try.func75 (by kernel_rfl) rfl #[.pointer (some ⟨g766, 0, none⟩)] rfl (by (try simp only [List.map_toArray, List.map_cons, List.map_nil]); first | done | rfl | (simp only [List.length_drop, List.length_take]; rfl)) ?_; (with_reducible refine (wire_Reader_Bool.calls g766 x767000_3 x767001_3 t781 t782 t783 w _ ?side1 ?side2 A36.out).mono ?_); (case side1 => repeat (first | (with_reducible first | exact HI766.out | apply IsS110.alloc | apply IsS110.drewN | apply IsS110.drew | apply IsS110.set_0 | apply IsS110.set_1 | refine IsS110.far ?_ NB766_774.out _) | exact HI766.out)); (case side2 => repeat (first | (with_reducible first | exact HB.out | apply below_alloc | apply pw_below_drewN | apply below_drew1 | refine below_set ?_ (IsS110.ge HI766.out) | refine below_set ?_ GE774.out) | exact HB.out)); rintro e w37 ⟨rfl, hi, hb, hk⟩; refine ⟨_, rfl, ?_⟩; have n0_ := Aside0.mk (KeepBut.blk hk (g' := gb774) (o := .cells #[.int .u8 ((rd_T71 l1 x39_3).f0), .int .i64 ((rd_T71 l1 x39_3).f1)] 71 (0, 0)) (by (with_reducible repeat (first | refine blk_drewN ?_ _ | refine blk_drew ?_ | refine blk_alloc ?_ _)); refine blk_put (cs := #[.int .u8 ((rd_T71 l1 x39_3).f0), .int .i64 0]) ?_ 1 _ rfl; (with_reducible repeat (first | refine blk_drewN ?_ _ | refine blk_drew ?_ | refine blk_alloc ?_ _)); refine blk_put (cs := #[.int .u8 0, .int .i64 0]) ?_ 0 _ rfl; (with_reducible repeat (first | refine blk_drewN ?_ _ | refine blk_drew ?_ | refine blk_alloc ?_ _)); exact BK774.out) NB774_766.out (by simp)); have n1_ := Aside0.mk (hb); have n2_ := Aside0.mk (hi); clear BK774; clear HB; clear HI766; have BK774 := n0_; have HB := n1_; have HI766 := n2_; clear n0_ n1_ n2_; (try clear hb); (try clear hb2); (try clear hk); (try clear hi)))
                                go_meet
                                case rel => exact ⟨_, (!t781), (t782), (t783), (by first | rfl | (simp; done) | (simp [*]; done)), H', ⟨by have := HJ2.out; have := HJ15.out; have := HK3.out; first | omega | exact Nat.le_refl _⟩, ⟨by (with_reducible repeat (first | refine blk_drewN ?_ _ | refine blk_drew ?_ | refine blk_alloc ?_ _)); exact BK774.out⟩, ⟨by repeat (first | (with_reducible first | exact HI766.out | apply IsS110.alloc | apply IsS110.drewN | apply IsS110.drew | apply IsS110.set_0 | apply IsS110.set_1 | refine IsS110.far ?_ NB766_774.out _) | exact HI766.out)⟩, ⟨by repeat (first | (with_reducible first | exact HB.out | apply below_alloc | apply pw_below_drewN | apply below_drew1 | refine below_set ?_ (IsS110.ge HI766.out) | refine below_set ?_ GE774.out) | exact HB.out)⟩⟩
                              · rw [if_neg c35] at H
                                have c35b0 : ((Int.tmod ((rd_T71 l1 x39_3).f0) 5) == 2) = false := beq_eq_false_iff_ne.mpr c35
                                have c35b1 : ((Int.tmod ((rd_T71 l1 x39_3).f0) 5) != 2) = true := bne_iff_ne.mpr c35
                                by_cases c38 : (Int.tmod ((rd_T71 l1 x39_3).f0) 5) = 3
                                · rw [if_pos c38] at H
                                  have c38b0 : ((Int.tmod ((rd_T71 l1 x39_3).f0) 5) == 3) = true := beq_iff_eq.mpr c38
                                  have c38b1 : ((Int.tmod ((rd_T71 l1 x39_3).f0) 5) != 3) = false := bne_eq_false_iff_eq.mpr c38
                                  clear c38
                                  replace H := Option.bind_eq_some_iff.mp H
                                  obtain ⟨⟨t784, t785, t786⟩, A390, H⟩ := H
                                  replace H : (dasdlaw01_WireStops.j3 k3 t770 (t784.toList == ([] : List UInt8)) l1 (l1.length : Int) x39_3 t785 t786) = some r := H
                                  have A39 := Aside0.mk A390
                                  clear A390
                                  have H' := Aside0.mk H
                                  clear H
                                  have hnb40 := NB774_766.out
                                  have hnc40 := NB766_774.out
                                  have hcz41_0 : w26.cell? ⟨gb774, 0, none⟩ = some (.int .u8 0) := (blk_cell BK774.out 0).trans rfl
                                  have hcz41_1 : w26.cell? ⟨gb774, 1, none⟩ = some (.int .i64 0) := (blk_cell BK774.out 1).trans rfl
                                  have hfz41_0 := blk_frozen BK774.out 0
                                  have hfz41_1 := blk_frozen BK774.out 1
                                  go_wp2_with (first | ((with_reducible refine gate_callee (f := 64) rfl ?_); refine goesL_ (some 66) rfl rfl Try.func64 (by kernel_rfl) rfl #[.pointer (some ⟨g766, 0, none⟩), .int .i64 ((rd_T71 l1 x39_3).f1)] rfl (by (try simp only [List.map_toArray, List.map_cons, List.map_nil]); first | done | rfl | (simp only [List.length_drop, List.length_take]; rfl)) ?_; (with_reducible refine (wire_Reader_Text.calls g766 x767000_3 x767001_3 ((rd_T71 l1 x39_3).f1) t784 t785 t786 w _ ?side1 ?side2 A39.out).mono ?_); (case side1 => repeat (first | (with_reducible first | exact HI766.out | apply IsS110.alloc | apply IsS110.drewN | apply IsS110.drew | apply IsS110.set_0 | apply IsS110.set_1 | refine IsS110.far ?_ NB766_774.out _) | exact HI766.out)); (case side2 => repeat (first | (with_reducible first | exact HB.out | apply below_alloc | apply pw_below_drewN | apply below_drew1 | refine below_set ?_ (IsS110.ge HI766.out) | refine below_set ?_ GE774.out) | exact HB.out)); rintro e w42 ⟨rfl, hi, hb, hk⟩; refine ⟨_, rfl, ?_⟩; have n0_ := Aside0.mk (KeepBut.blk hk (g' := gb774) (o := .cells #[.int .u8 ((rd_T71 l1 x39_3).f0), .int .i64 ((rd_T71 l1 x39_3).f1)] 71 (0, 0)) (by (with_reducible repeat (first | refine blk_drewN ?_ _ | refine blk_drew ?_ | refine blk_alloc ?_ _)); refine blk_put (cs := #[.int .u8 ((rd_T71 l1 x39_3).f0), .int .i64 0]) ?_ 1 _ rfl; (with_reducible repeat (first | refine blk_drewN ?_ _ | refine blk_drew ?_ | refine blk_alloc ?_ _)); refine blk_put (cs := #[.int .u8 0, .int .i64 0]) ?_ 0 _ rfl; (with_reducible repeat (first | refine blk_drewN ?_ _ | refine blk_drew ?_ | refine blk_alloc ?_ _)); exact BK774.out) NB774_766.out (by simp)); have n1_ := Aside0.mk (hb); have n2_ := Aside0.mk (hi); clear BK774; clear HB; clear HI766; have BK774 := n0_; have HB := n1_; have HI766 := n2_; clear n0_ n1_ n2_; (try clear hb); (try clear hb2); (try clear hk); (try clear hi)))
                                  go_meet
                                  case rel => exact ⟨_, ((t784.toList == ([] : List UInt8))), (t785), (t786), (by first | rfl | (simp; done) | (simp [*]; done)), H', ⟨by have := HJ2.out; have := HJ15.out; have := HK3.out; first | omega | exact Nat.le_refl _⟩, ⟨by (with_reducible repeat (first | refine blk_drewN ?_ _ | refine blk_drew ?_ | refine blk_alloc ?_ _)); exact BK774.out⟩, ⟨by repeat (first | (with_reducible first | exact HI766.out | apply IsS110.alloc | apply IsS110.drewN | apply IsS110.drew | apply IsS110.set_0 | apply IsS110.set_1 | refine IsS110.far ?_ NB766_774.out _) | exact HI766.out)⟩, ⟨by repeat (first | (with_reducible first | exact HB.out | apply below_alloc | apply pw_below_drewN | apply below_drew1 | refine below_set ?_ (IsS110.ge HI766.out) | refine below_set ?_ GE774.out) | exact HB.out)⟩⟩
                                · rw [if_neg c38] at H
                                  have c38b0 : ((Int.tmod ((rd_T71 l1 x39_3).f0) 5) == 3) = false := beq_eq_false_iff_ne.mpr c38
                                  have c38b1 : ((Int.tmod ((rd_T71 l1 x39_3).f0) 5) != 3) = true := bne_iff_ne.mpr c38
                                  by_cases c43 : (Int.tmod ((rd_T71 l1 x39_3).f0) 5) = 4
                                  · rw [if_pos c43] at H
                                    have c43b0 : ((Int.tmod ((rd_T71 l1 x39_3).f0) 5) == 4) = true := beq_iff_eq.mpr c43
                                    have c43b1 : ((Int.tmod ((rd_T71 l1 x39_3).f0) 5) != 4) = false := bne_eq_false_iff_eq.mpr c43
                                    clear c43
                                    replace H := Option.bind_eq_some_iff.mp H
                                    obtain ⟨⟨t787, t788, t789⟩, A440, H⟩ := H
                                    replace H : (dasdlaw01_WireStops.j3 k3 t770 (t787 == 0) l1 (l1.length : Int) x39_3 t788 t789) = some r := H
                                    have A44 := Aside0.mk A440
                                    clear A440
                                    have H' := Aside0.mk H
                                    clear H
                                    have hnb45 := NB774_766.out
                                    have hnc45 := NB766_774.out
                                    have hcz46_0 : w26.cell? ⟨gb774, 0, none⟩ = some (.int .u8 0) := (blk_cell BK774.out 0).trans rfl
                                    have hcz46_1 : w26.cell? ⟨gb774, 1, none⟩ = some (.int .i64 0) := (blk_cell BK774.out 1).trans rfl
                                    have hfz46_0 := blk_frozen BK774.out 0
                                    have hfz46_1 := blk_frozen BK774.out 1
                                    go_wp2_with (first | ((with_reducible refine gate_callee (f := 63) rfl ?_); refine goesL_ (some 73) rfl rfl Try.func63 (by kernel_rfl) rfl #[.pointer (some ⟨g766, 0, none⟩), .int .i64 ((rd_T71 l1 x39_3).f1)] rfl (by (try simp only [List.map_toArray, List.map_cons, List.map_nil]); first | done | rfl | (simp only [List.length_drop, List.length_take]; rfl)) ?_; (with_reducible refine (wire_Reader_Count.calls g766 x767000_3 x767001_3 ((rd_T71 l1 x39_3).f1) t787 t788 t789 w _ ?side1 ?side2 A44.out).mono ?_); (case side1 => repeat (first | (with_reducible first | exact HI766.out | apply IsS110.alloc | apply IsS110.drewN | apply IsS110.drew | apply IsS110.set_0 | apply IsS110.set_1 | refine IsS110.far ?_ NB766_774.out _) | exact HI766.out)); (case side2 => repeat (first | (with_reducible first | exact HB.out | apply below_alloc | apply pw_below_drewN | apply below_drew1 | refine below_set ?_ (IsS110.ge HI766.out) | refine below_set ?_ GE774.out) | exact HB.out)); rintro e w47 ⟨rfl, hi, hb, hk⟩; refine ⟨_, rfl, ?_⟩; have n0_ := Aside0.mk (KeepBut.blk hk (g' := gb774) (o := .cells #[.int .u8 ((rd_T71 l1 x39_3).f0), .int .i64 ((rd_T71 l1 x39_3).f1)] 71 (0, 0)) (by (with_reducible repeat (first | refine blk_drewN ?_ _ | refine blk_drew ?_ | refine blk_alloc ?_ _)); refine blk_put (cs := #[.int .u8 ((rd_T71 l1 x39_3).f0), .int .i64 0]) ?_ 1 _ rfl; (with_reducible repeat (first | refine blk_drewN ?_ _ | refine blk_drew ?_ | refine blk_alloc ?_ _)); refine blk_put (cs := #[.int .u8 0, .int .i64 0]) ?_ 0 _ rfl; (with_reducible repeat (first | refine blk_drewN ?_ _ | refine blk_drew ?_ | refine blk_alloc ?_ _)); exact BK774.out) NB774_766.out (by simp)); have n1_ := Aside0.mk (hb); have n2_ := Aside0.mk (hi); clear BK774; clear HB; clear HI766; have BK774 := n0_; have HB := n1_; have HI766 := n2_; clear n0_ n1_ n2_; (try clear hb); (try clear hb2); (try clear hk); (try clear hi)))
                                    go_meet
                                    case rel => exact ⟨_, ((t787 == 0)), (t788), (t789), (by first | rfl | (simp; done) | (simp [*]; done)), H', ⟨by have := HJ2.out; have := HJ15.out; have := HK3.out; first | omega | exact Nat.le_refl _⟩, ⟨by (with_reducible repeat (first | refine blk_drewN ?_ _ | refine blk_drew ?_ | refine blk_alloc ?_ _)); exact BK774.out⟩, ⟨by repeat (first | (with_reducible first | exact HI766.out | apply IsS110.alloc | apply IsS110.drewN | apply IsS110.drew | apply IsS110.set_0 | apply IsS110.set_1 | refine IsS110.far ?_ NB766_774.out _) | exact HI766.out)⟩, ⟨by repeat (first | (with_reducible first | exact HB.out | apply below_alloc | apply pw_below_drewN | apply below_drew1 | refine below_set ?_ (IsS110.ge HI766.out) | refine below_set ?_ GE774.out) | exact HB.out)⟩⟩
                                  · rw [if_neg c43] at H
                                    have c43b0 : ((Int.tmod ((rd_T71 l1 x39_3).f0) 5) == 4) = false := beq_eq_false_iff_ne.mpr c43
                                    have c43b1 : ((Int.tmod ((rd_T71 l1 x39_3).f0) 5) != 4) = true := bne_iff_ne.mpr c43
                                    have H' := Aside0.mk H
                                    clear H
                                    go_wp2
                                    go_meet
                                    case rel => exact ⟨_, (false), (x767000_3), (x767001_3), (by first | rfl | (simp; done) | (simp [*]; done)), H', ⟨by have := HJ2.out; have := HJ15.out; have := HK3.out; first | omega | exact Nat.le_refl _⟩, ⟨by (with_reducible repeat (first | refine blk_drewN ?_ _ | refine blk_drew ?_ | refine blk_alloc ?_ _)); refine blk_put (cs := #[.int .u8 ((rd_T71 l1 x39_3).f0), .int .i64 0]) ?_ 1 _ rfl; (with_reducible repeat (first | refine blk_drewN ?_ _ | refine blk_drew ?_ | refine blk_alloc ?_ _)); refine blk_put (cs := #[.int .u8 0, .int .i64 0]) ?_ 0 _ rfl; (with_reducible repeat (first | refine blk_drewN ?_ _ | refine blk_drew ?_ | refine blk_alloc ?_ _)); exact BK774.out⟩, ⟨by repeat (first | (with_reducible first | exact HI766.out | apply IsS110.alloc | apply IsS110.drewN | apply IsS110.drew | apply IsS110.set_0 | apply IsS110.set_1 | refine IsS110.far ?_ NB766_774.out _) | exact HI766.out)⟩, ⟨by repeat (first | (with_reducible first | exact HB.out | apply below_alloc | apply pw_below_drewN | apply below_drew1 | refine below_set ?_ (IsS110.ge HI766.out) | refine below_set ?_ GE774.out) | exact HB.out)⟩⟩
                        case rest =>
                          clear HC25
                          try clear c1
                          try clear c2
                          try clear p2
                          try clear c3
                          try clear c4
                          try clear c5
                          try clear c6
                          try clear c6b0
                          try clear c6b1
                          try clear c7
                          try clear p7
                          try clear q7
                          try clear hx7
                          try clear c10
                          try clear c15
                          try clear c20
                          try clear c20b0
                          try clear c20b1
                          try clear c21
                          try clear c22
                          try clear c22b0
                          try clear c23
                          try clear c23b0
                          try clear c24
                          try clear c24b0
                          try clear c25
                          try clear c27
                          try clear c29
                          try clear c29b0
                          try clear c29b1
                          try clear c32
                          try clear c32b0
                          try clear c32b1
                          try clear c35
                          try clear c35b0
                          try clear c35b1
                          try clear c38
                          try clear c38b0
                          try clear c38b1
                          try clear c40
                          try clear c43
                          try clear c43b0
                          try clear c43b1
                          try clear c45
                          try clear hcz28_0
                          try clear hcz28_1
                          try clear hcz41_0
                          try clear hcz41_1
                          try clear hcz46_0
                          try clear hcz46_1
                          try clear hfz28_0
                          try clear hfz28_1
                          try clear hfz41_0
                          try clear hfz41_1
                          try clear hfz46_0
                          try clear hfz46_1
                          try clear hx773_0
                          try clear hx773_1
                          try clear p2
                          try clear p773
                          try clear q773
                          obtain ⟨kq, x9_24, x767000_24, x767001_24, rfl, HA, HJ24, BK774, HI766, HB⟩ := hcut
                          cases kq with
                          | zero => exact absurd HA.out (by simp [dasdlaw01_WireStops.j3])
                          | succ kj24 =>
                            have H := HA.out
                            clear HA
                            simp only [dasdlaw01_WireStops.j3] at H
                            by_cases c48 : x9_24 = true
                            · subst c48
                              have H1 : ((wire_Reader_End.f x767000_24 x767001_24).bind fun bt790 => (if bt790.1 = t770 then ((wire_Reader_Left.f bt790.2.1 bt790.2.2).bind fun bt793 => (if bt793.1 = 0 then ((wire_Reader_Rest.f bt793.2.1 bt793.2.2).bind fun bt796 => (if bt796.1.toList = ([] : List UInt8) then (dasdlaw01_WireStops.l0 kj24 t770 l1 (l1.length : Int) (wrap64 (x39_3 + 1)) bt796.2.1 bt796.2.2) else (some false))) else (some false))) else (some false))) = some r := by rw [if_pos rfl] at H; exact H
                              clear H
                              have H := H1
                              clear H1
                              replace H := Option.bind_eq_some_iff.mp H
                              obtain ⟨⟨t790, t791, t792⟩, A490, H⟩ := H
                              replace H : (if t790 = t770 then ((wire_Reader_Left.f t791 t792).bind fun bt793 => (if bt793.1 = 0 then ((wire_Reader_Rest.f bt793.2.1 bt793.2.2).bind fun bt796 => (if bt796.1.toList = ([] : List UInt8) then (dasdlaw01_WireStops.l0 kj24 t770 l1 (l1.length : Int) (wrap64 (x39_3 + 1)) bt796.2.1 bt796.2.2) else (some false))) else (some false))) else (some false)) = some r := H
                              have A49 := Aside0.mk A490
                              clear A490
                              by_cases c50 : t790 = t770
                              · rw [if_pos c50] at H
                                have c50b0 : (t790 == t770) = true := beq_iff_eq.mpr c50
                                have c50b1 : (t790 != t770) = false := bne_eq_false_iff_eq.mpr c50
                                clear c50
                                replace H := Option.bind_eq_some_iff.mp H
                                obtain ⟨⟨t793, t794, t795⟩, A510, H⟩ := H
                                replace H : (if t793 = 0 then ((wire_Reader_Rest.f t794 t795).bind fun bt796 => (if bt796.1.toList = ([] : List UInt8) then (dasdlaw01_WireStops.l0 kj24 t770 l1 (l1.length : Int) (wrap64 (x39_3 + 1)) bt796.2.1 bt796.2.2) else (some false))) else (some false)) = some r := H
                                have A51 := Aside0.mk A510
                                clear A510
                                by_cases c52 : t793 = 0
                                · rw [if_pos c52] at H
                                  have c52b0 : (t793 == 0) = true := beq_iff_eq.mpr c52
                                  have c52b1 : (t793 != 0) = false := bne_eq_false_iff_eq.mpr c52
                                  clear c52
                                  replace H := Option.bind_eq_some_iff.mp H
                                  obtain ⟨⟨t796, t797, t798⟩, A530, H⟩ := H
                                  replace H : (if t796.toList = ([] : List UInt8) then (dasdlaw01_WireStops.l0 kj24 t770 l1 (l1.length : Int) (wrap64 (x39_3 + 1)) t797 t798) else (some false)) = some r := H
                                  have A53 := Aside0.mk A530
                                  clear A530
                                  by_cases c54 : t796.toList = ([] : List UInt8)
                                  · rw [if_pos c54] at H
                                    have c54b0 : (t796.toList == ([] : List UInt8)) = true := beq_iff_eq.mpr c54
                                    have c54b1 : (t796.toList != ([] : List UInt8)) = false := bne_eq_false_iff_eq.mpr c54
                                    clear c54
                                    have H' := Aside0.mk H
                                    clear H
                                    go_wp2_with (first | (go_at_call 65; (with_reducible refine (wire_Reader_End.calls g766 x767000_24 x767001_24 t790 t791 t792 w _ ?side1 ?side2 A49.out).mono ?_); (case side1 => repeat (first | (with_reducible first | exact HI766.out | apply IsS110.alloc | apply IsS110.drewN | apply IsS110.drew | apply IsS110.set_0 | apply IsS110.set_1 | refine IsS110.far ?_ NB766_774.out _) | exact HI766.out)); (case side2 => repeat (first | (with_reducible first | exact HB.out | apply below_alloc | apply pw_below_drewN | apply below_drew1 | refine below_set ?_ (IsS110.ge HI766.out) | refine below_set ?_ GE774.out) | exact HB.out)); rintro e w55 ⟨rfl, hi, hb, hk⟩; have n0_ := Aside0.mk (KeepBut.blk hk (g' := gb774) (o := .cells #[.int .u8 ((rd_T71 l1 x39_3).f0), .int .i64 ((rd_T71 l1 x39_3).f1)] 71 (0, 0)) (by (with_reducible repeat (first | refine blk_drewN ?_ _ | refine blk_drew ?_ | refine blk_alloc ?_ _)); exact BK774.out) NB774_766.out (by simp)); have n1_ := Aside0.mk (hb); have n2_ := Aside0.mk (hi); clear BK774; clear HB; clear HI766; have BK774 := n0_; have HB := n1_; have HI766 := n2_; clear n0_ n1_ n2_; (try clear hb); (try clear hb2); (try clear hk); (try clear hi)) | (go_at_call 78; (with_reducible refine (wire_Reader_Left.calls g766 t791 t792 t793 t794 t795 w _ ?side1 ?side2 A51.out).mono ?_); (case side1 => repeat (first | (with_reducible first | exact HI766.out | apply IsS110.alloc | apply IsS110.drewN | apply IsS110.drew | apply IsS110.set_0 | apply IsS110.set_1 | refine IsS110.far ?_ NB766_774.out _) | exact HI766.out)); (case side2 => repeat (first | (with_reducible first | exact HB.out | apply below_alloc | apply pw_below_drewN | apply below_drew1 | refine below_set ?_ (IsS110.ge HI766.out) | refine below_set ?_ GE774.out) | exact HB.out)); rintro e w56 ⟨rfl, hi, hb, hk⟩; have n0_ := Aside0.mk (KeepBut.blk hk (g' := gb774) (o := .cells #[.int .u8 ((rd_T71 l1 x39_3).f0), .int .i64 ((rd_T71 l1 x39_3).f1)] 71 (0, 0)) (by (with_reducible repeat (first | refine blk_drewN ?_ _ | refine blk_drew ?_ | refine blk_alloc ?_ _)); exact BK774.out) NB774_766.out (by simp)); have n1_ := Aside0.mk (hb); have n2_ := Aside0.mk (hi); clear BK774; clear HB; clear HI766; have BK774 := n0_; have HB := n1_; have HI766 := n2_; clear n0_ n1_ n2_; (try clear hb); (try clear hb2); (try clear hk); (try clear hi)) | (go_at_call 79; (with_reducible refine (wire_Reader_Rest.calls g766 t794 t795 t796 t797 t798 w _ ?side1 ?side2 A53.out).mono ?_); (case side1 => repeat (first | (with_reducible first | exact HI766.out | apply IsS110.alloc | apply IsS110.drewN | apply IsS110.drew | apply IsS110.set_0 | apply IsS110.set_1 | refine IsS110.far ?_ NB766_774.out _) | exact HI766.out)); (case side2 => repeat (first | (with_reducible first | exact HB.out | apply below_alloc | apply pw_below_drewN | apply below_drew1 | refine below_set ?_ (IsS110.ge HI766.out) | refine below_set ?_ GE774.out) | exact HB.out)); rintro e w57 ⟨rfl, hi, hb, hk⟩; have n0_ := Aside0.mk (KeepBut.blk hk (g' := gb774) (o := .cells #[.int .u8 ((rd_T71 l1 x39_3).f0), .int .i64 ((rd_T71 l1 x39_3).f1)] 71 (0, 0)) (by (with_reducible repeat (first | refine blk_drewN ?_ _ | refine blk_drew ?_ | refine blk_alloc ?_ _)); exact BK774.out) NB774_766.out (by simp)); have n1_ := Aside0.mk (hb); have n2_ := Aside0.mk (hi); clear BK774; clear HB; clear HI766; have BK774 := n0_; have HB := n1_; have HI766 := n2_; clear n0_ n1_ n2_; (try clear hb); (try clear hb2); (try clear hk); (try clear hi)))
                                    go_roundg kj24
                                    case measure => have := HJ2.out; have := HJ15.out; have := HK3.out; have := HJ24.out; omega
                                    case rel => exact ⟨(wrap64 (x39_3 + 1)), (t797), (t798), (by first | rfl | (simp; done) | (simp [*]; done)), H', ⟨by have := HJ2.out; have := HJ15.out; have := HK3.out; have := HJ24.out; omega⟩, ⟨by repeat (first | (with_reducible first | exact HI766.out | apply IsS110.alloc | apply IsS110.drewN | apply IsS110.drew | apply IsS110.set_0 | apply IsS110.set_1 | refine IsS110.far ?_ NB766_774.out _) | exact HI766.out)⟩, ⟨by repeat (first | (with_reducible first | exact HB.out | apply below_alloc | apply pw_below_drewN | apply below_drew1 | refine below_set ?_ (IsS110.ge HI766.out) | refine below_set ?_ GE774.out) | exact HB.out)⟩⟩
                                  · rw [if_neg c54] at H
                                    have c54b0 : (t796.toList == ([] : List UInt8)) = false := beq_eq_false_iff_ne.mpr c54
                                    have c54b1 : (t796.toList != ([] : List UInt8)) = true := bne_iff_ne.mpr c54
                                    obtain rfl := Option.some.inj H
                                    go_wp2_with (first | (go_at_call 65; (with_reducible refine (wire_Reader_End.calls g766 x767000_24 x767001_24 t790 t791 t792 w _ ?side1 ?side2 A49.out).mono ?_); (case side1 => repeat (first | (with_reducible first | exact HI766.out | apply IsS110.alloc | apply IsS110.drewN | apply IsS110.drew | apply IsS110.set_0 | apply IsS110.set_1 | refine IsS110.far ?_ NB766_774.out _) | exact HI766.out)); (case side2 => repeat (first | (with_reducible first | exact HB.out | apply below_alloc | apply pw_below_drewN | apply below_drew1 | refine below_set ?_ (IsS110.ge HI766.out) | refine below_set ?_ GE774.out) | exact HB.out)); rintro e w58 ⟨rfl, hi, hb, hk⟩; have n0_ := Aside0.mk (KeepBut.blk hk (g' := gb774) (o := .cells #[.int .u8 ((rd_T71 l1 x39_3).f0), .int .i64 ((rd_T71 l1 x39_3).f1)] 71 (0, 0)) (by (with_reducible repeat (first | refine blk_drewN ?_ _ | refine blk_drew ?_ | refine blk_alloc ?_ _)); exact BK774.out) NB774_766.out (by simp)); have n1_ := Aside0.mk (hb); have n2_ := Aside0.mk (hi); clear BK774; clear HB; clear HI766; have BK774 := n0_; have HB := n1_; have HI766 := n2_; clear n0_ n1_ n2_; (try clear hb); (try clear hb2); (try clear hk); (try clear hi)) | (go_at_call 78; (with_reducible refine (wire_Reader_Left.calls g766 t791 t792 t793 t794 t795 w _ ?side1 ?side2 A51.out).mono ?_); (case side1 => repeat (first | (with_reducible first | exact HI766.out | apply IsS110.alloc | apply IsS110.drewN | apply IsS110.drew | apply IsS110.set_0 | apply IsS110.set_1 | refine IsS110.far ?_ NB766_774.out _) | exact HI766.out)); (case side2 => repeat (first | (with_reducible first | exact HB.out | apply below_alloc | apply pw_below_drewN | apply below_drew1 | refine below_set ?_ (IsS110.ge HI766.out) | refine below_set ?_ GE774.out) | exact HB.out)); rintro e w59 ⟨rfl, hi, hb, hk⟩; have n0_ := Aside0.mk (KeepBut.blk hk (g' := gb774) (o := .cells #[.int .u8 ((rd_T71 l1 x39_3).f0), .int .i64 ((rd_T71 l1 x39_3).f1)] 71 (0, 0)) (by (with_reducible repeat (first | refine blk_drewN ?_ _ | refine blk_drew ?_ | refine blk_alloc ?_ _)); exact BK774.out) NB774_766.out (by simp)); have n1_ := Aside0.mk (hb); have n2_ := Aside0.mk (hi); clear BK774; clear HB; clear HI766; have BK774 := n0_; have HB := n1_; have HI766 := n2_; clear n0_ n1_ n2_; (try clear hb); (try clear hb2); (try clear hk); (try clear hi)) | (go_at_call 79; (with_reducible refine (wire_Reader_Rest.calls g766 t794 t795 t796 t797 t798 w _ ?side1 ?side2 A53.out).mono ?_); (case side1 => repeat (first | (with_reducible first | exact HI766.out | apply IsS110.alloc | apply IsS110.drewN | apply IsS110.drew | apply IsS110.set_0 | apply IsS110.set_1 | refine IsS110.far ?_ NB766_774.out _) | exact HI766.out)); (case side2 => repeat (first | (with_reducible first | exact HB.out | apply below_alloc | apply pw_below_drewN | apply below_drew1 | refine below_set ?_ (IsS110.ge HI766.out) | refine below_set ?_ GE774.out) | exact HB.out)); rintro e w60 ⟨rfl, hi, hb, hk⟩; have n0_ := Aside0.mk (KeepBut.blk hk (g' := gb774) (o := .cells #[.int .u8 ((rd_T71 l1 x39_3).f0), .int .i64 ((rd_T71 l1 x39_3).f1)] 71 (0, 0)) (by (with_reducible repeat (first | refine blk_drewN ?_ _ | refine blk_drew ?_ | refine blk_alloc ?_ _)); exact BK774.out) NB774_766.out (by simp)); have n1_ := Aside0.mk (hb); have n2_ := Aside0.mk (hi); clear BK774; clear HB; clear HI766; have BK774 := n0_; have HB := n1_; have HI766 := n2_; clear n0_ n1_ n2_; (try clear hb); (try clear hb2); (try clear hk); (try clear hi)))
                                    go_ret
                                    exact ⟨by first | rfl | (simp [errW_none, errW_some] <;> rfl) | (simp [*, errW_none, errW_some] <;> rfl), by repeat (first | (with_reducible first | exact HB.out | apply below_alloc | apply pw_below_drewN | apply below_drew1 | refine below_set ?_ (IsS110.ge HI766.out) | refine below_set ?_ GE774.out) | exact HB.out)⟩
                                · rw [if_neg c52] at H
                                  have c52b0 : (t793 == 0) = false := beq_eq_false_iff_ne.mpr c52
                                  have c52b1 : (t793 != 0) = true := bne_iff_ne.mpr c52
                                  obtain rfl := Option.some.inj H
                                  go_wp2_with (first | (go_at_call 65; (with_reducible refine (wire_Reader_End.calls g766 x767000_24 x767001_24 t790 t791 t792 w _ ?side1 ?side2 A49.out).mono ?_); (case side1 => repeat (first | (with_reducible first | exact HI766.out | apply IsS110.alloc | apply IsS110.drewN | apply IsS110.drew | apply IsS110.set_0 | apply IsS110.set_1 | refine IsS110.far ?_ NB766_774.out _) | exact HI766.out)); (case side2 => repeat (first | (with_reducible first | exact HB.out | apply below_alloc | apply pw_below_drewN | apply below_drew1 | refine below_set ?_ (IsS110.ge HI766.out) | refine below_set ?_ GE774.out) | exact HB.out)); rintro e w61 ⟨rfl, hi, hb, hk⟩; have n0_ := Aside0.mk (KeepBut.blk hk (g' := gb774) (o := .cells #[.int .u8 ((rd_T71 l1 x39_3).f0), .int .i64 ((rd_T71 l1 x39_3).f1)] 71 (0, 0)) (by (with_reducible repeat (first | refine blk_drewN ?_ _ | refine blk_drew ?_ | refine blk_alloc ?_ _)); exact BK774.out) NB774_766.out (by simp)); have n1_ := Aside0.mk (hb); have n2_ := Aside0.mk (hi); clear BK774; clear HB; clear HI766; have BK774 := n0_; have HB := n1_; have HI766 := n2_; clear n0_ n1_ n2_; (try clear hb); (try clear hb2); (try clear hk); (try clear hi)) | (go_at_call 78; (with_reducible refine (wire_Reader_Left.calls g766 t791 t792 t793 t794 t795 w _ ?side1 ?side2 A51.out).mono ?_); (case side1 => repeat (first | (with_reducible first | exact HI766.out | apply IsS110.alloc | apply IsS110.drewN | apply IsS110.drew | apply IsS110.set_0 | apply IsS110.set_1 | refine IsS110.far ?_ NB766_774.out _) | exact HI766.out)); (case side2 => repeat (first | (with_reducible first | exact HB.out | apply below_alloc | apply pw_below_drewN | apply below_drew1 | refine below_set ?_ (IsS110.ge HI766.out) | refine below_set ?_ GE774.out) | exact HB.out)); rintro e w62 ⟨rfl, hi, hb, hk⟩; have n0_ := Aside0.mk (KeepBut.blk hk (g' := gb774) (o := .cells #[.int .u8 ((rd_T71 l1 x39_3).f0), .int .i64 ((rd_T71 l1 x39_3).f1)] 71 (0, 0)) (by (with_reducible repeat (first | refine blk_drewN ?_ _ | refine blk_drew ?_ | refine blk_alloc ?_ _)); exact BK774.out) NB774_766.out (by simp)); have n1_ := Aside0.mk (hb); have n2_ := Aside0.mk (hi); clear BK774; clear HB; clear HI766; have BK774 := n0_; have HB := n1_; have HI766 := n2_; clear n0_ n1_ n2_; (try clear hb); (try clear hb2); (try clear hk); (try clear hi)))
                                  go_ret
                                  exact ⟨by first | rfl | (simp [errW_none, errW_some] <;> rfl) | (simp [*, errW_none, errW_some] <;> rfl), by repeat (first | (with_reducible first | exact HB.out | apply below_alloc | apply pw_below_drewN | apply below_drew1 | refine below_set ?_ (IsS110.ge HI766.out) | refine below_set ?_ GE774.out) | exact HB.out)⟩
                              · rw [if_neg c50] at H
                                have c50b0 : (t790 == t770) = false := beq_eq_false_iff_ne.mpr c50
                                have c50b1 : (t790 != t770) = true := bne_iff_ne.mpr c50
                                obtain rfl := Option.some.inj H
                                go_wp2_with (first | (go_at_call 65; (with_reducible refine (wire_Reader_End.calls g766 x767000_24 x767001_24 t790 t791 t792 w _ ?side1 ?side2 A49.out).mono ?_); (case side1 => repeat (first | (with_reducible first | exact HI766.out | apply IsS110.alloc | apply IsS110.drewN | apply IsS110.drew | apply IsS110.set_0 | apply IsS110.set_1 | refine IsS110.far ?_ NB766_774.out _) | exact HI766.out)); (case side2 => repeat (first | (with_reducible first | exact HB.out | apply below_alloc | apply pw_below_drewN | apply below_drew1 | refine below_set ?_ (IsS110.ge HI766.out) | refine below_set ?_ GE774.out) | exact HB.out)); rintro e w63 ⟨rfl, hi, hb, hk⟩; have n0_ := Aside0.mk (KeepBut.blk hk (g' := gb774) (o := .cells #[.int .u8 ((rd_T71 l1 x39_3).f0), .int .i64 ((rd_T71 l1 x39_3).f1)] 71 (0, 0)) (by (with_reducible repeat (first | refine blk_drewN ?_ _ | refine blk_drew ?_ | refine blk_alloc ?_ _)); exact BK774.out) NB774_766.out (by simp)); have n1_ := Aside0.mk (hb); have n2_ := Aside0.mk (hi); clear BK774; clear HB; clear HI766; have BK774 := n0_; have HB := n1_; have HI766 := n2_; clear n0_ n1_ n2_; (try clear hb); (try clear hb2); (try clear hk); (try clear hi)))
                                go_ret
                                exact ⟨by first | rfl | (simp [errW_none, errW_some] <;> rfl) | (simp [*, errW_none, errW_some] <;> rfl), by repeat (first | (with_reducible first | exact HB.out | apply below_alloc | apply pw_below_drewN | apply below_drew1 | refine below_set ?_ (IsS110.ge HI766.out) | refine below_set ?_ GE774.out) | exact HB.out)⟩
                            · replace c48 := Bool.eq_false_iff.mpr c48
                              subst c48
                              have H1 : (some false) = some r := by rw [if_neg (show ¬ (false = true) by decide)] at H; exact H
                              clear H
                              have H := H1
                              clear H1
                              obtain rfl := Option.some.inj H
                              go_wp2
                              go_ret
                              exact ⟨by first | rfl | (simp [errW_none, errW_some] <;> rfl) | (simp [*, errW_none, errW_some] <;> rfl), by repeat (first | (with_reducible first | exact HB.out | apply below_alloc | apply pw_below_drewN | apply below_drew1 | refine below_set ?_ (IsS110.ge HI766.out) | refine below_set ?_ GE774.out) | exact HB.out)⟩
                      · rw [if_neg c24] at H
                        exact absurd H (by simp)
                    · rw [if_neg c23] at H
                      exact absurd H (by simp)
                  · rw [if_neg c22] at H
                    have c22b0 : decide (x39_3 < (l1.length : Int)) = false := decide_eq_false c22
                    clear c22
                    obtain rfl := Option.some.inj H
                    go_wp2
                    go_ret
                    exact ⟨by first | rfl | (simp [errW_none, errW_some] <;> rfl) | (simp [*, errW_none, errW_some] <;> rfl), by repeat (first | (with_reducible first | exact HB.out | apply below_alloc | apply pw_below_drewN | apply below_drew1 | refine below_set ?_ (IsS110.ge HI766.out)) | exact HB.out)⟩

end Go.Proofs.Ytegefemkmdlmaaa.P
