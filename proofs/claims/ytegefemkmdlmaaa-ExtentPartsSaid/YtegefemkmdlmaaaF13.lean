-- Printed by a program of this session (hand.py) out of the translation. Lean checks it.
import Derived.Test.YtegefemkmdlmaaaF0
import Derived.Test.YtegefemkmdlmaaaF34
import Derived.Test.YtegefemkmdlmaaaF35
import Derived.Test.YtegefemkmdlmaaaGb
import Derived.Test.YtegefemkmdlmaaaF50
import Derived.Test.YtegefemkmdlmaaaF52
import Derived.Test.YtegefemkmdlmaaaGd
import Derived.Test.YtegefemkmdlmaaaF69
namespace Go.Proofs.Ytegefemkmdlmaaa.P
open Go.RowKit Go.Proofs.YtegefemkmdlmaaaW.PrintWords Go.Proofs.YtegefemkmdlmaaaW.PrintLast Go.Proofs.YtegefemkmdlmaaaW.PrintMore
attribute [local go_sem] max2_int min2_int max_two min_two max_three min_three max_four min_four   -- for this text's walks alone
set_option linter.unusedVariables false
set_option linter.unusedSimpArgs false

/-! ### dasdlaw05_ExtentParts: function 13 -/
mutual
def dasdlaw05_ExtentParts.j0 : Nat → List (S103) → Int → Bool → Option (Bool)
  | 0, _, _, _ => none
  | k + 1, x0, x1, x23 => if x23 = true then ((dasdlaw05_awake.f k).bind fun t653 => (some t653)) else ((extent_Size.f k x0).bind fun t654 => ((extent_Cut.f k x0 x1).bind fun bt655 => ((extent_Size.f k bt655.1).bind fun t661 => (if t661 = (mx 0 (mn x1 t654)) then ((extent_Size.f k bt655.1).bind fun t662 => ((extent_Size.f k bt655.2).bind fun t663 => (if (wrap64 (t662 + t663)) = t654 then ((some (([] : List (S103)) : List (S103))).bind fun y664 => (if y664.length + bt655.1.length < 8796093022208 then ((some (y664 ++ bt655.1 : List (S103))).bind fun y667 => (if y667.length + bt655.2.length < 8796093022208 then ((extent_Join.f k (y667 ++ bt655.2)).bind fun t673 => ((extent_Join.f k x0).bind fun t676 => ((dasdref05_Same.f k t673 t676).bind fun t679 => (dasdlaw05_ExtentParts.j1 k x0 t654 (!t679))))) else (none))) else (none))) else (dasdlaw05_ExtentParts.j1 k x0 t654 true)))) else (dasdlaw05_ExtentParts.j1 k x0 t654 true)))))
def dasdlaw05_ExtentParts.j1 : Nat → List (S103) → Int → Bool → Option (Bool)
  | 0, _, _, _ => none
  | k + 1, x0, x5, x60 => if x60 = true then (some false) else (dasdlaw05_ExtentParts.l0 k x0 x5 0)
def dasdlaw05_ExtentParts.l0 : Nat → List (S103) → Int → Int → Option (Bool)
  | 0, _, _, _ => none
  | k + 1, x0, x5, x8 => if x8 < x5 then ((extent_At.f k x0 x8).bind fun bt682 => ((extent_Index.f k x0 bt682.1).bind fun bt684 => ((extent_Join.f k x0).bind fun t686 => ((extent_At.f k t686 x8).bind fun bt689 => (if bt682.2 = true then (if bt684.2 = true then (if bt689.2 = true then (if bt684.1 > x8 then (some false) else (if bt682.1 = bt689.1 then ((extent_Contains.f k x0 bt682.1).bind fun t691 => (if t691 = true then (if bt684.1 < x8 then ((extent_Disjoint.f k x0).bind fun t692 => (if t692 = true then (some false) else (dasdlaw05_ExtentParts.l0 k x0 x5 (wrap64 (x8 + 1))))) else (dasdlaw05_ExtentParts.l0 k x0 x5 (wrap64 (x8 + 1)))) else (some false))) else (some false))) else (some false)) else (some false)) else (some false)))))) else ((extent_At.f k x0 x5).bind fun bt680 => (some (!bt680.2)))
end
def dasdlaw05_ExtentParts.f (k : Nat) (l0 : List (S103)) (a1 : Int) : Option (Bool) := (dasdlaw05_awake.f k).bind fun t652 => (if t652 = true then (dasdlaw05_ExtentParts.j0 k l0 a1 (decide ((l0.length : Int) > 12))) else (dasdlaw05_ExtentParts.j0 k l0 a1 true))
theorem dasdlaw05_ExtentParts.mono_l : ∀ k, (∀ y0 y1 y2, LeO (dasdlaw05_ExtentParts.j0 k y0 y1 y2) (dasdlaw05_ExtentParts.j0 (k + 1) y0 y1 y2)) ∧ (∀ y0 y1 y2, LeO (dasdlaw05_ExtentParts.j1 k y0 y1 y2) (dasdlaw05_ExtentParts.j1 (k + 1) y0 y1 y2)) ∧ (∀ y0 y1 y2, LeO (dasdlaw05_ExtentParts.l0 k y0 y1 y2) (dasdlaw05_ExtentParts.l0 (k + 1) y0 y1 y2))
  | 0 => ⟨fun _ _ _ r h => by simp [dasdlaw05_ExtentParts.j0] at h, fun _ _ _ r h => by simp [dasdlaw05_ExtentParts.j1] at h, fun _ _ _ r h => by simp [dasdlaw05_ExtentParts.l0] at h⟩
  | k + 1 => by
    obtain ⟨ih0, ih1, ih2⟩ := dasdlaw05_ExtentParts.mono_l k
    refine ⟨?_, ?_, ?_⟩
    · intro y0 y1 y2
      unfold dasdlaw05_ExtentParts.j0
      repeat' first
      | (with_reducible exact ih0 _ _ _)
      | (with_reducible exact ih1 _ _ _)
      | (with_reducible exact ih2 _ _ _)
      | (with_reducible exact dasdlaw05_awake.mono _)
      | (with_reducible exact dasdref05_Same.mono _ _ _)
      | (with_reducible exact extent_At.mono _ _ _)
      | (with_reducible exact extent_Contains.mono _ _ _)
      | (with_reducible exact extent_Cut.mono _ _ _)
      | (with_reducible exact extent_Disjoint.mono _ _)
      | (with_reducible exact extent_Index.mono _ _ _)
      | (with_reducible exact extent_Join.mono _ _)
      | (with_reducible exact extent_Size.mono _ _)
      | (with_reducible exact LeO.refl _)
      | (with_reducible exact LeO.none _)
      | (with_reducible refine LeO.ite ?_ ?_)
      | (with_reducible refine LeO.bind ?_ (fun _ => ?_))
      | exact ih0 _ _ _
      | exact ih1 _ _ _
      | exact ih2 _ _ _
      | exact dasdlaw05_awake.mono _
      | exact dasdref05_Same.mono _ _ _
      | exact extent_At.mono _ _ _
      | exact extent_Contains.mono _ _ _
      | exact extent_Cut.mono _ _ _
      | exact extent_Disjoint.mono _ _
      | exact extent_Index.mono _ _ _
      | exact extent_Join.mono _ _
      | exact extent_Size.mono _ _
      | exact LeO.none _
      | refine LeO.ite ?_ ?_
      | refine LeO.bind ?_ (fun _ => ?_)
    · intro y0 y1 y2
      unfold dasdlaw05_ExtentParts.j1
      repeat' first
      | (with_reducible exact ih0 _ _ _)
      | (with_reducible exact ih1 _ _ _)
      | (with_reducible exact ih2 _ _ _)
      | (with_reducible exact dasdlaw05_awake.mono _)
      | (with_reducible exact dasdref05_Same.mono _ _ _)
      | (with_reducible exact extent_At.mono _ _ _)
      | (with_reducible exact extent_Contains.mono _ _ _)
      | (with_reducible exact extent_Cut.mono _ _ _)
      | (with_reducible exact extent_Disjoint.mono _ _)
      | (with_reducible exact extent_Index.mono _ _ _)
      | (with_reducible exact extent_Join.mono _ _)
      | (with_reducible exact extent_Size.mono _ _)
      | (with_reducible exact LeO.refl _)
      | (with_reducible exact LeO.none _)
      | (with_reducible refine LeO.ite ?_ ?_)
      | (with_reducible refine LeO.bind ?_ (fun _ => ?_))
      | exact ih0 _ _ _
      | exact ih1 _ _ _
      | exact ih2 _ _ _
      | exact dasdlaw05_awake.mono _
      | exact dasdref05_Same.mono _ _ _
      | exact extent_At.mono _ _ _
      | exact extent_Contains.mono _ _ _
      | exact extent_Cut.mono _ _ _
      | exact extent_Disjoint.mono _ _
      | exact extent_Index.mono _ _ _
      | exact extent_Join.mono _ _
      | exact extent_Size.mono _ _
      | exact LeO.none _
      | refine LeO.ite ?_ ?_
      | refine LeO.bind ?_ (fun _ => ?_)
    · intro y0 y1 y2
      unfold dasdlaw05_ExtentParts.l0
      repeat' first
      | (with_reducible exact ih0 _ _ _)
      | (with_reducible exact ih1 _ _ _)
      | (with_reducible exact ih2 _ _ _)
      | (with_reducible exact dasdlaw05_awake.mono _)
      | (with_reducible exact dasdref05_Same.mono _ _ _)
      | (with_reducible exact extent_At.mono _ _ _)
      | (with_reducible exact extent_Contains.mono _ _ _)
      | (with_reducible exact extent_Cut.mono _ _ _)
      | (with_reducible exact extent_Disjoint.mono _ _)
      | (with_reducible exact extent_Index.mono _ _ _)
      | (with_reducible exact extent_Join.mono _ _)
      | (with_reducible exact extent_Size.mono _ _)
      | (with_reducible exact LeO.refl _)
      | (with_reducible exact LeO.none _)
      | (with_reducible refine LeO.ite ?_ ?_)
      | (with_reducible refine LeO.bind ?_ (fun _ => ?_))
      | exact ih0 _ _ _
      | exact ih1 _ _ _
      | exact ih2 _ _ _
      | exact dasdlaw05_awake.mono _
      | exact dasdref05_Same.mono _ _ _
      | exact extent_At.mono _ _ _
      | exact extent_Contains.mono _ _ _
      | exact extent_Cut.mono _ _ _
      | exact extent_Disjoint.mono _ _
      | exact extent_Index.mono _ _ _
      | exact extent_Join.mono _ _
      | exact extent_Size.mono _ _
      | exact LeO.none _
      | refine LeO.ite ?_ ?_
      | refine LeO.bind ?_ (fun _ => ?_)
theorem dasdlaw05_ExtentParts.mono : ∀ a0 a1 k, LeO (dasdlaw05_ExtentParts.f k a0 a1) (dasdlaw05_ExtentParts.f (k + 1) a0 a1) := by
  intro a0 a1 k
  obtain ⟨ih0, ih1, ih2⟩ := dasdlaw05_ExtentParts.mono_l k
  unfold dasdlaw05_ExtentParts.f
  repeat' first
      | (with_reducible exact ih0 _ _ _)
      | (with_reducible exact ih1 _ _ _)
      | (with_reducible exact ih2 _ _ _)
      | (with_reducible exact dasdlaw05_awake.mono _)
      | (with_reducible exact dasdref05_Same.mono _ _ _)
      | (with_reducible exact extent_At.mono _ _ _)
      | (with_reducible exact extent_Contains.mono _ _ _)
      | (with_reducible exact extent_Cut.mono _ _ _)
      | (with_reducible exact extent_Disjoint.mono _ _)
      | (with_reducible exact extent_Index.mono _ _ _)
      | (with_reducible exact extent_Join.mono _ _)
      | (with_reducible exact extent_Size.mono _ _)
      | (with_reducible exact LeO.refl _)
      | (with_reducible exact LeO.none _)
      | (with_reducible refine LeO.ite ?_ ?_)
      | (with_reducible refine LeO.bind ?_ (fun _ => ?_))
      | exact ih0 _ _ _
      | exact ih1 _ _ _
      | exact ih2 _ _ _
      | exact dasdlaw05_awake.mono _
      | exact dasdref05_Same.mono _ _ _
      | exact extent_At.mono _ _ _
      | exact extent_Contains.mono _ _ _
      | exact extent_Cut.mono _ _ _
      | exact extent_Disjoint.mono _ _
      | exact extent_Index.mono _ _ _
      | exact extent_Join.mono _ _
      | exact extent_Size.mono _ _
      | exact LeO.none _
      | refine LeO.ite ?_ ?_
      | refine LeO.bind ?_ (fun _ => ?_)
set_option maxHeartbeats 8000000 in
set_option maxRecDepth 100000 in
theorem dasdlaw05_ExtentParts.calls (k : Nat) (A0 : Option Addr) (c0 : Nat) (l0 : List (S103)) (a1 : Int) (r : Bool) (w : World) (hr0 : Kd.C k103 w A0 l0.length l0) (hc0 : l0.length ≤ c0) (h : dasdlaw05_ExtentParts.f k l0 a1 = some r) :
    Calls Try.prog 13 #[.slice A0 l0.length c0, .int .i64 a1] w fun e w' => e = .returned (.bool r) ∧ Below w.heap.size w w' := by
  have HR0 := Aside0.mk hr0
  have HC0 := Aside0.mk hc0
  clear hr0 hc0
  have HB := Aside0.mk (Below.refl w.heap.size w)
  have H : ((dasdlaw05_awake.f k).bind fun t652 => (if t652 = true then (dasdlaw05_ExtentParts.j0 k l0 a1 (decide ((l0.length : Int) > 12))) else (dasdlaw05_ExtentParts.j0 k l0 a1 true))) = some r := h
  clear h
  have HC3 := Aside0.mk H
  clear H
  go_enter Try.func13, Try.ntmps13
  go_upto_region 1 with (fail)
  go_cut [23] (fun v23 wc => ∃ (kq : Nat) (x23_2 : Bool), v23 = .bool x23_2 ∧ Aside0 (dasdlaw05_ExtentParts.j0 kq l0 a1 x23_2 = some r) ∧ Aside0 (kq ≤ k) ∧ Aside0 (Below w.heap.size w wc))
  case first =>
    have H := HC3.out
    clear HC3
    replace H := Option.bind_eq_some_iff.mp H
    obtain ⟨t652, A40, H⟩ := H
    replace H : (if t652 = true then (dasdlaw05_ExtentParts.j0 k l0 a1 (decide ((l0.length : Int) > 12))) else (dasdlaw05_ExtentParts.j0 k l0 a1 true)) = some r := H
    have A4 := Aside0.mk A40
    clear A40
    by_cases c5 : t652 = true
    · subst c5
      have H1 : (dasdlaw05_ExtentParts.j0 k l0 a1 (decide ((l0.length : Int) > 12))) = some r := by rw [if_pos rfl] at H; exact H
      clear H
      have H := H1
      clear H1
      have H' := Aside0.mk H
      clear H
      go_wp2_with (first | ((with_reducible refine gate_callee (f := 34) rfl ?_); refine goesL_ (some 17) rfl rfl Try.func34 (by kernel_rfl) rfl #[] rfl (by (try simp only [List.map_toArray, List.map_cons, List.map_nil]); first | done | rfl | (simp only [List.length_drop, List.length_take]; rfl)) ?_; (with_reducible refine (dasdlaw05_awake.calls k  true _ A4.out).mono ?_); rintro e w6 ⟨rfl, hb⟩; refine ⟨_, rfl, ?_⟩; have n0_ := Aside0.mk (below_step (by repeat (first | (with_reducible first | exact HB.out | apply below_alloc | apply pw_below_drewN | apply below_drew1) | exact HB.out)) hb); clear HB; have HB := n0_; clear n0_; (try clear hb); (try clear hb2); (try clear hk); (try clear hi)))
      go_meet
      case rel => exact ⟨_, (decide ((l0.length : Int) > 12)), (by first | rfl | (simp; done) | (simp [*]; done)), H', ⟨by first | omega | exact Nat.le_refl _⟩, ⟨by repeat (first | (with_reducible first | exact HB.out | apply below_alloc | apply pw_below_drewN | apply below_drew1) | exact HB.out)⟩⟩
    · replace c5 := Bool.eq_false_iff.mpr c5
      subst c5
      have H1 : (dasdlaw05_ExtentParts.j0 k l0 a1 true) = some r := by rw [if_neg (show ¬ (false = true) by decide)] at H; exact H
      clear H
      have H := H1
      clear H1
      have H' := Aside0.mk H
      clear H
      go_wp2_with (first | ((with_reducible refine gate_callee (f := 34) rfl ?_); refine goesL_ (some 17) rfl rfl Try.func34 (by kernel_rfl) rfl #[] rfl (by (try simp only [List.map_toArray, List.map_cons, List.map_nil]); first | done | rfl | (simp only [List.length_drop, List.length_take]; rfl)) ?_; (with_reducible refine (dasdlaw05_awake.calls k  false _ A4.out).mono ?_); rintro e w7 ⟨rfl, hb⟩; refine ⟨_, rfl, ?_⟩; have n0_ := Aside0.mk (below_step (by repeat (first | (with_reducible first | exact HB.out | apply below_alloc | apply pw_below_drewN | apply below_drew1) | exact HB.out)) hb); clear HB; have HB := n0_; clear n0_; (try clear hb); (try clear hb2); (try clear hk); (try clear hi)))
      go_meet
      case rel => exact ⟨_, (true), (by first | rfl | (simp; done) | (simp [*]; done)), H', ⟨by first | omega | exact Nat.le_refl _⟩, ⟨by repeat (first | (with_reducible first | exact HB.out | apply below_alloc | apply pw_below_drewN | apply below_drew1) | exact HB.out)⟩⟩
  case rest =>
    clear HC3
    try clear c1
    try clear p2
    try clear c3
    try clear c5
    obtain ⟨kq, x23_2, rfl, HA, HJ2, HB⟩ := hcut
    cases kq with
    | zero => exact absurd HA.out (by simp [dasdlaw05_ExtentParts.j0])
    | succ kj2 =>
      have H := HA.out
      clear HA
      simp only [dasdlaw05_ExtentParts.j0] at H
      by_cases c8 : x23_2 = true
      · subst c8
        have H1 : ((dasdlaw05_awake.f kj2).bind fun t653 => (some t653)) = some r := by rw [if_pos rfl] at H; exact H
        clear H
        have H := H1
        clear H1
        replace H := Option.bind_eq_some_iff.mp H
        obtain ⟨t653, A90, H⟩ := H
        replace H : (some t653) = some r := H
        have A9 := Aside0.mk A90
        clear A90
        obtain rfl := Option.some.inj H
        go_wp2_with (first | ((with_reducible refine gate_callee (f := 34) rfl ?_); refine goesL_ (some 24) rfl rfl Try.func34 (by kernel_rfl) rfl #[] rfl (by (try simp only [List.map_toArray, List.map_cons, List.map_nil]); first | done | rfl | (simp only [List.length_drop, List.length_take]; rfl)) ?_; (with_reducible refine (dasdlaw05_awake.calls kj2  t653 _ A9.out).mono ?_); rintro e w10 ⟨rfl, hb⟩; refine ⟨_, rfl, ?_⟩; have n0_ := Aside0.mk (below_step (by repeat (first | (with_reducible first | exact HB.out | apply below_alloc | apply pw_below_drewN | apply below_drew1) | exact HB.out)) hb); clear HB; have HB := n0_; clear n0_; (try clear hb); (try clear hb2); (try clear hk); (try clear hi)))
        go_ret
        exact ⟨by first | rfl | (simp [errW_none, errW_some] <;> rfl) | (simp [*, errW_none, errW_some] <;> rfl), by repeat (first | (with_reducible first | exact HB.out | apply below_alloc | apply pw_below_drewN | apply below_drew1) | exact HB.out)⟩
      · replace c8 := Bool.eq_false_iff.mpr c8
        subst c8
        have H1 : ((extent_Size.f kj2 l0).bind fun t654 => ((extent_Cut.f kj2 l0 a1).bind fun bt655 => ((extent_Size.f kj2 bt655.1).bind fun t661 => (if t661 = (mx 0 (mn a1 t654)) then ((extent_Size.f kj2 bt655.1).bind fun t662 => ((extent_Size.f kj2 bt655.2).bind fun t663 => (if (wrap64 (t662 + t663)) = t654 then ((some (([] : List (S103)) : List (S103))).bind fun y664 => (if y664.length + bt655.1.length < 8796093022208 then ((some (y664 ++ bt655.1 : List (S103))).bind fun y667 => (if y667.length + bt655.2.length < 8796093022208 then ((extent_Join.f kj2 (y667 ++ bt655.2)).bind fun t673 => ((extent_Join.f kj2 l0).bind fun t676 => ((dasdref05_Same.f kj2 t673 t676).bind fun t679 => (dasdlaw05_ExtentParts.j1 kj2 l0 t654 (!t679))))) else (none))) else (none))) else (dasdlaw05_ExtentParts.j1 kj2 l0 t654 true)))) else (dasdlaw05_ExtentParts.j1 kj2 l0 t654 true))))) = some r := by rw [if_neg (show ¬ (false = true) by decide)] at H; exact H
        clear H
        have H := H1
        clear H1
        replace H := Option.bind_eq_some_iff.mp H
        obtain ⟨t654, A110, H⟩ := H
        replace H : ((extent_Cut.f kj2 l0 a1).bind fun bt655 => ((extent_Size.f kj2 bt655.1).bind fun t661 => (if t661 = (mx 0 (mn a1 t654)) then ((extent_Size.f kj2 bt655.1).bind fun t662 => ((extent_Size.f kj2 bt655.2).bind fun t663 => (if (wrap64 (t662 + t663)) = t654 then ((some (([] : List (S103)) : List (S103))).bind fun y664 => (if y664.length + bt655.1.length < 8796093022208 then ((some (y664 ++ bt655.1 : List (S103))).bind fun y667 => (if y667.length + bt655.2.length < 8796093022208 then ((extent_Join.f kj2 (y667 ++ bt655.2)).bind fun t673 => ((extent_Join.f kj2 l0).bind fun t676 => ((dasdref05_Same.f kj2 t673 t676).bind fun t679 => (dasdlaw05_ExtentParts.j1 kj2 l0 t654 (!t679))))) else (none))) else (none))) else (dasdlaw05_ExtentParts.j1 kj2 l0 t654 true)))) else (dasdlaw05_ExtentParts.j1 kj2 l0 t654 true)))) = some r := H
        have A11 := Aside0.mk A110
        clear A110
        replace H := Option.bind_eq_some_iff.mp H
        obtain ⟨⟨t655, t656⟩, A120, H⟩ := H
        replace H : ((extent_Size.f kj2 t655).bind fun t661 => (if t661 = (mx 0 (mn a1 t654)) then ((extent_Size.f kj2 t655).bind fun t662 => ((extent_Size.f kj2 t656).bind fun t663 => (if (wrap64 (t662 + t663)) = t654 then ((some (([] : List (S103)) : List (S103))).bind fun y664 => (if y664.length + t655.length < 8796093022208 then ((some (y664 ++ t655 : List (S103))).bind fun y667 => (if y667.length + t656.length < 8796093022208 then ((extent_Join.f kj2 (y667 ++ t656)).bind fun t673 => ((extent_Join.f kj2 l0).bind fun t676 => ((dasdref05_Same.f kj2 t673 t676).bind fun t679 => (dasdlaw05_ExtentParts.j1 kj2 l0 t654 (!t679))))) else (none))) else (none))) else (dasdlaw05_ExtentParts.j1 kj2 l0 t654 true)))) else (dasdlaw05_ExtentParts.j1 kj2 l0 t654 true))) = some r := H
        have A12 := Aside0.mk A120
        clear A120
        have HC13 := Aside0.mk H
        clear H
        go_upto_region 5 with (first | ((with_reducible refine gate_callee (f := 54) rfl ?_); refine goesL_ (some 26) rfl rfl Try.func54 (by kernel_rfl) rfl #[.slice A0 l0.length c0] rfl (by (try simp only [List.map_toArray, List.map_cons, List.map_nil]); first | done | rfl | (simp only [List.length_drop, List.length_take]; rfl)) ?_; (with_reducible refine (extent_Size.calls kj2 _ _ l0 t654 _ ?side1 ?side2 A11.out).mono ?_); (case side1 => repeat (first | exact (Kd.C_below HR0.out HB.out) | (with_reducible refine Kd.C_alloc ?_ _) | (with_reducible refine Kd.C_drewN ?_ _) | (with_reducible refine Kd.C_drew ?_))); (case side2 => exact HC0.out); rintro e w14 ⟨rfl, hb⟩; refine ⟨_, rfl, ?_⟩; have n0_ := Aside0.mk (below_step (by repeat (first | (with_reducible first | exact HB.out | apply below_alloc | apply pw_below_drewN | apply below_drew1) | exact HB.out)) hb); clear HB; have HB := n0_; clear n0_; (try clear hb); (try clear hb2); (try clear hk); (try clear hi)) | ((with_reducible refine gate_callee (f := 35) rfl ?_); refine goesL_ (some 30) rfl rfl Try.func35 (by kernel_rfl) rfl #[.slice A0 l0.length c0, .int .i64 a1] rfl (by (try simp only [List.map_toArray, List.map_cons, List.map_nil]); first | done | rfl | (simp only [List.length_drop, List.length_take]; rfl)) ?_; (with_reducible refine (extent_Cut.calls kj2 _ _ l0 a1 t655 t656 _ ?side1 ?side2 A12.out).mono ?_); (case side1 => repeat (first | exact (Kd.C_below HR0.out HB.out) | (with_reducible refine Kd.C_alloc ?_ _) | (with_reducible refine Kd.C_drewN ?_ _) | (with_reducible refine Kd.C_drew ?_))); (case side2 => exact HC0.out); rintro e w15 ⟨v657, v659, rfl, ho0, ho1, hb⟩; refine ⟨_, rfl, ?_⟩; have n0_ := Aside0.mk (Kd.R_lower ho0 (below_size (by repeat (first | (with_reducible first | exact HB.out | apply below_alloc | apply pw_below_drewN | apply below_drew1) | exact HB.out)))); have n1_ := Aside0.mk (Kd.R_lower ho1 (below_size (by repeat (first | (with_reducible first | exact HB.out | apply below_alloc | apply pw_below_drewN | apply below_drew1) | exact HB.out)))); have n2_ := Aside0.mk (below_step (by repeat (first | (with_reducible first | exact HB.out | apply below_alloc | apply pw_below_drewN | apply below_drew1) | exact HB.out)) hb); clear HB; have HO658 := n0_; have HO660 := n1_; have HB := n2_; clear n0_ n1_ n2_; (try clear hb); (try clear hb2); (try clear hk); (try clear hi); (try clear ho0); (try clear ho1)))
        (try simp only [Act.put, List.setIfInBounds_toArray, List.set_cons_zero, List.set_cons_succ])
        go_cut [60] (fun v60 wc => ∃ (kq : Nat) (x60_12 : Bool), v60 = .bool x60_12 ∧ Aside0 (dasdlaw05_ExtentParts.j1 kq l0 t654 x60_12 = some r) ∧ Aside0 (kq ≤ kj2) ∧ Aside0 (Below w.heap.size w wc))
        case first =>
          have H := HC13.out
          clear HC13
          replace H := Option.bind_eq_some_iff.mp H
          obtain ⟨t661, A160, H⟩ := H
          replace H : (if t661 = (mx 0 (mn a1 t654)) then ((extent_Size.f kj2 t655).bind fun t662 => ((extent_Size.f kj2 t656).bind fun t663 => (if (wrap64 (t662 + t663)) = t654 then ((some (([] : List (S103)) : List (S103))).bind fun y664 => (if y664.length + t655.length < 8796093022208 then ((some (y664 ++ t655 : List (S103))).bind fun y667 => (if y667.length + t656.length < 8796093022208 then ((extent_Join.f kj2 (y667 ++ t656)).bind fun t673 => ((extent_Join.f kj2 l0).bind fun t676 => ((dasdref05_Same.f kj2 t673 t676).bind fun t679 => (dasdlaw05_ExtentParts.j1 kj2 l0 t654 (!t679))))) else (none))) else (none))) else (dasdlaw05_ExtentParts.j1 kj2 l0 t654 true)))) else (dasdlaw05_ExtentParts.j1 kj2 l0 t654 true)) = some r := H
          have A16 := Aside0.mk A160
          clear A160
          obtain ⟨ji17, hji17⟩ : ∃ j_ : Int, (mn a1 t654) = j_ := ⟨_, rfl⟩
          replace H : (if t661 = (mx 0 (ji17)) then ((extent_Size.f kj2 t655).bind fun t662 => ((extent_Size.f kj2 t656).bind fun t663 => (if (wrap64 (t662 + t663)) = t654 then ((some (([] : List (S103)) : List (S103))).bind fun y664 => (if y664.length + t655.length < 8796093022208 then ((some (y664 ++ t655 : List (S103))).bind fun y667 => (if y667.length + t656.length < 8796093022208 then ((extent_Join.f kj2 (y667 ++ t656)).bind fun t673 => ((extent_Join.f kj2 l0).bind fun t676 => ((dasdref05_Same.f kj2 t673 t676).bind fun t679 => (dasdlaw05_ExtentParts.j1 kj2 l0 t654 (!t679))))) else (none))) else (none))) else (dasdlaw05_ExtentParts.j1 kj2 l0 t654 true)))) else (dasdlaw05_ExtentParts.j1 kj2 l0 t654 true)) = some r := by first | (rw [hji17] at H; exact H) | (simp only [hji17] at H ⊢; exact H)
          (try rw [hji17] at A16)
          have hji17_ : (if t654 < a1 then t654 else a1) = ji17 := hji17
          obtain ⟨ji18, hji18⟩ : ∃ j_ : Int, (mx 0 (ji17)) = j_ := ⟨_, rfl⟩
          replace H : (if t661 = (ji18) then ((extent_Size.f kj2 t655).bind fun t662 => ((extent_Size.f kj2 t656).bind fun t663 => (if (wrap64 (t662 + t663)) = t654 then ((some (([] : List (S103)) : List (S103))).bind fun y664 => (if y664.length + t655.length < 8796093022208 then ((some (y664 ++ t655 : List (S103))).bind fun y667 => (if y667.length + t656.length < 8796093022208 then ((extent_Join.f kj2 (y667 ++ t656)).bind fun t673 => ((extent_Join.f kj2 l0).bind fun t676 => ((dasdref05_Same.f kj2 t673 t676).bind fun t679 => (dasdlaw05_ExtentParts.j1 kj2 l0 t654 (!t679))))) else (none))) else (none))) else (dasdlaw05_ExtentParts.j1 kj2 l0 t654 true)))) else (dasdlaw05_ExtentParts.j1 kj2 l0 t654 true)) = some r := by first | (rw [hji18] at H; exact H) | (simp only [hji18] at H ⊢; exact H)
          (try rw [hji18] at A16)
          have hji18_ : (if 0 < (ji17) then (ji17) else 0) = ji18 := hji18
          by_cases c19 : t661 = (ji18)
          · rw [if_pos c19] at H
            have c19b0 : (t661 == (ji18)) = true := beq_iff_eq.mpr c19
            have c19b1 : (t661 != (ji18)) = false := bne_eq_false_iff_eq.mpr c19
            clear c19
            (first | rw [c19b0] | (simp only [i64_w, i32_w]; rw [c19b0]) | skip)
            replace H := Option.bind_eq_some_iff.mp H
            obtain ⟨t662, A200, H⟩ := H
            replace H : ((extent_Size.f kj2 t656).bind fun t663 => (if (wrap64 (t662 + t663)) = t654 then ((some (([] : List (S103)) : List (S103))).bind fun y664 => (if y664.length + t655.length < 8796093022208 then ((some (y664 ++ t655 : List (S103))).bind fun y667 => (if y667.length + t656.length < 8796093022208 then ((extent_Join.f kj2 (y667 ++ t656)).bind fun t673 => ((extent_Join.f kj2 l0).bind fun t676 => ((dasdref05_Same.f kj2 t673 t676).bind fun t679 => (dasdlaw05_ExtentParts.j1 kj2 l0 t654 (!t679))))) else (none))) else (none))) else (dasdlaw05_ExtentParts.j1 kj2 l0 t654 true))) = some r := H
            have A20 := Aside0.mk A200
            clear A200
            replace H := Option.bind_eq_some_iff.mp H
            obtain ⟨t663, A210, H⟩ := H
            replace H : (if (wrap64 (t662 + t663)) = t654 then ((some (([] : List (S103)) : List (S103))).bind fun y664 => (if y664.length + t655.length < 8796093022208 then ((some (y664 ++ t655 : List (S103))).bind fun y667 => (if y667.length + t656.length < 8796093022208 then ((extent_Join.f kj2 (y667 ++ t656)).bind fun t673 => ((extent_Join.f kj2 l0).bind fun t676 => ((dasdref05_Same.f kj2 t673 t676).bind fun t679 => (dasdlaw05_ExtentParts.j1 kj2 l0 t654 (!t679))))) else (none))) else (none))) else (dasdlaw05_ExtentParts.j1 kj2 l0 t654 true)) = some r := H
            have A21 := Aside0.mk A210
            clear A210
            by_cases c22 : (wrap64 (t662 + t663)) = t654
            · rw [if_pos c22] at H
              have c22b0 : ((wrap64 (t662 + t663)) == t654) = true := beq_iff_eq.mpr c22
              have c22b1 : ((wrap64 (t662 + t663)) != t654) = false := bne_eq_false_iff_eq.mpr c22
              clear c22
              obtain ⟨y664, hy664⟩ : ∃ y_ : List (S103), y_ = (([] : List (S103))) := ⟨_, rfl⟩
              replace H : (if y664.length + t655.length < 8796093022208 then ((some (y664 ++ t655 : List (S103))).bind fun y667 => (if y667.length + t656.length < 8796093022208 then ((extent_Join.f kj2 (y667 ++ t656)).bind fun t673 => ((extent_Join.f kj2 l0).bind fun t676 => ((dasdref05_Same.f kj2 t673 t676).bind fun t679 => (dasdlaw05_ExtentParts.j1 kj2 l0 t654 (!t679))))) else (none))) else (none)) = some r := by first | (rw [hy664]; with_reducible exact H) | (have H2_ := (Option.bind_some _ _).symm.trans H; rw [hy664]; with_reducible exact H2_) | (have H2_ := (Option.bind_some _ _).symm.trans H; with_reducible exact H2_) | with_reducible exact H | (rw [hy664]; exact H) | exact H
              have Ny664 := Aside0.mk hy664
              clear hy664
              by_cases c23 : y664.length + t655.length < 8796093022208
              · rw [if_pos c23] at H
                have LMc23 := Aside0.mk c23
                clear c23
                obtain ⟨y667, hy667⟩ : ∃ y_ : List (S103), y_ = (y664 ++ t655) := ⟨_, rfl⟩
                replace H : (if y667.length + t656.length < 8796093022208 then ((extent_Join.f kj2 (y667 ++ t656)).bind fun t673 => ((extent_Join.f kj2 l0).bind fun t676 => ((dasdref05_Same.f kj2 t673 t676).bind fun t679 => (dasdlaw05_ExtentParts.j1 kj2 l0 t654 (!t679))))) else (none)) = some r := by first | (rw [hy667]; with_reducible exact H) | (have H2_ := (Option.bind_some _ _).symm.trans H; rw [hy667]; with_reducible exact H2_) | (have H2_ := (Option.bind_some _ _).symm.trans H; with_reducible exact H2_) | with_reducible exact H | (rw [hy667]; exact H) | exact H
                have Ny667 := Aside0.mk hy667
                clear hy667
                by_cases c24 : y667.length + t656.length < 8796093022208
                · rw [if_pos c24] at H
                  have LMc24 := Aside0.mk c24
                  clear c24
                  obtain ⟨y670, hy670⟩ : ∃ y_ : List (S103), y_ = (y667 ++ t656) := ⟨_, rfl⟩
                  replace H : ((extent_Join.f kj2 y670).bind fun t673 => ((extent_Join.f kj2 l0).bind fun t676 => ((dasdref05_Same.f kj2 t673 t676).bind fun t679 => (dasdlaw05_ExtentParts.j1 kj2 l0 t654 (!t679))))) = some r := by first | (rw [hy670]; with_reducible exact H) | (have H2_ := (Option.bind_some _ _).symm.trans H; rw [hy670]; with_reducible exact H2_) | (have H2_ := (Option.bind_some _ _).symm.trans H; with_reducible exact H2_) | with_reducible exact H | (rw [hy670]; exact H) | exact H
                  have Ny670 := Aside0.mk hy670
                  clear hy670
                  replace H := Option.bind_eq_some_iff.mp H
                  obtain ⟨t673, A250, H⟩ := H
                  replace H : ((extent_Join.f kj2 l0).bind fun t676 => ((dasdref05_Same.f kj2 t673 t676).bind fun t679 => (dasdlaw05_ExtentParts.j1 kj2 l0 t654 (!t679)))) = some r := H
                  have A25 := Aside0.mk A250
                  clear A250
                  replace H := Option.bind_eq_some_iff.mp H
                  obtain ⟨t676, A260, H⟩ := H
                  replace H : ((dasdref05_Same.f kj2 t673 t676).bind fun t679 => (dasdlaw05_ExtentParts.j1 kj2 l0 t654 (!t679))) = some r := H
                  have A26 := Aside0.mk A260
                  clear A260
                  replace H := Option.bind_eq_some_iff.mp H
                  obtain ⟨t679, A270, H⟩ := H
                  replace H : (dasdlaw05_ExtentParts.j1 kj2 l0 t654 (!t679)) = some r := H
                  have A27 := Aside0.mk A270
                  clear A270
                  have H' := Aside0.mk H
                  clear H
                  obtain ⟨Ao28, co28, eo28⟩ := Kd.R_slice HO658.out
                  subst eo28
                  go_wp2_with (first | ((with_reducible refine gate_callee (f := 54) rfl ?_); refine goesL_ (some 34) rfl rfl Try.func54 (by kernel_rfl) rfl #[.slice Ao28 t655.length co28] rfl (by (try simp only [List.map_toArray, List.map_cons, List.map_nil]); first | done | rfl | (simp only [List.length_drop, List.length_take]; rfl)) ?_; (with_reducible refine (extent_Size.calls kj2 _ _ t655 t661 _ ?side1 ?side2 A16.out).mono ?_); (case side1 => repeat (first | exact (Kd.R_reads' HO658.out).2.2 | (with_reducible refine Kd.C_alloc ?_ _) | (with_reducible refine Kd.C_drewN ?_ _) | (with_reducible refine Kd.C_drew ?_))); (case side2 => exact (Kd.R_reads' HO658.out).2.1); rintro e w29 ⟨rfl, hb⟩; refine ⟨_, rfl, ?_⟩; have n0_ := Aside0.mk (Kd.R_below (by (with_reducible repeat (first | apply Kd.R_alloc | apply Kd.R_drewN | apply Kd.R_drew)); exact HO658.out) hb); have n1_ := Aside0.mk (Kd.R_below (by (with_reducible repeat (first | apply Kd.R_alloc | apply Kd.R_drewN | apply Kd.R_drew)); exact HO660.out) hb); have n2_ := Aside0.mk (below_step (by repeat (first | (with_reducible first | exact HB.out | apply below_alloc | apply pw_below_drewN | apply below_drew1) | exact HB.out)) hb); clear HO658; clear HO660; clear HB; have HO658 := n0_; have HO660 := n1_; have HB := n2_; clear n0_ n1_ n2_; (try clear hb); (try clear hb2); (try clear hk); (try clear hi)) | (go_at_call 54; (with_reducible refine (extent_Size.calls kj2 _ _ t655 t662 _ ?side1 ?side2 A20.out).mono ?_); (case side1 => repeat (first | exact (Kd.R_reads' HO658.out).2.2 | (with_reducible refine Kd.C_alloc ?_ _) | (with_reducible refine Kd.C_drewN ?_ _) | (with_reducible refine Kd.C_drew ?_))); (case side2 => exact (Kd.R_reads' HO658.out).2.1); rintro e w30 ⟨rfl, hb⟩; have n0_ := Aside0.mk (Kd.R_below (by (with_reducible repeat (first | apply Kd.R_alloc | apply Kd.R_drewN | apply Kd.R_drew)); exact HO658.out) hb); have n1_ := Aside0.mk (Kd.R_below (by (with_reducible repeat (first | apply Kd.R_alloc | apply Kd.R_drewN | apply Kd.R_drew)); exact HO660.out) hb); have n2_ := Aside0.mk (below_step (by repeat (first | (with_reducible first | exact HB.out | apply below_alloc | apply pw_below_drewN | apply below_drew1) | exact HB.out)) hb); clear HO658; clear HO660; clear HB; have HO658 := n0_; have HO660 := n1_; have HB := n2_; clear n0_ n1_ n2_; (try clear hb); (try clear hb2); (try clear hk); (try clear hi); obtain ⟨Ao31, co31, eo31⟩ := Kd.R_slice HO660.out; subst eo31) | (go_at_call 54; (with_reducible refine (extent_Size.calls kj2 _ _ t656 t663 _ ?side1 ?side2 A21.out).mono ?_); (case side1 => repeat (first | exact (Kd.R_reads' HO660.out).2.2 | (with_reducible refine Kd.C_alloc ?_ _) | (with_reducible refine Kd.C_drewN ?_ _) | (with_reducible refine Kd.C_drew ?_))); (case side2 => exact (Kd.R_reads' HO660.out).2.1); rintro e w32 ⟨rfl, hb⟩; have n0_ := Aside0.mk (Kd.R_below (by (with_reducible repeat (first | apply Kd.R_alloc | apply Kd.R_drewN | apply Kd.R_drew)); exact HO658.out) hb); have n1_ := Aside0.mk (Kd.R_below (by (with_reducible repeat (first | apply Kd.R_alloc | apply Kd.R_drewN | apply Kd.R_drew)); exact HO660.out) hb); have n2_ := Aside0.mk (below_step (by repeat (first | (with_reducible first | exact HB.out | apply below_alloc | apply pw_below_drewN | apply below_drew1) | exact HB.out)) hb); clear HO658; clear HO660; clear HB; have HO658 := n0_; have HO660 := n1_; have HB := n2_; clear n0_ n1_ n2_; (try clear hb); (try clear hb2); (try clear hk); (try clear hi)) | ((with_reducible refine gate_dst (N := 50) rfl ?_); (try (refine gate_guard (by rfl) ?_; dsimp only)); refine Kd.R_lit k103 _ 103 ?hg (N := 50) ?hd (xs := ([] : List (S103))) (inner := []) (ok := fun _ => True) (okp := fun _ => True) ?hr ?hp (fun _ hk => hk) trivial (Below.refl _ _) (Nat.le_refl _) (by simp) ?_; (case hd => rfl); (case hg => rfl); (case hr => first | (go_simp; done) | (go_simp; rfl)); (case hp => exact (Reps.none _ _)); intro v665 w33 ho34 hb hg_ hnew_; clear hg_ hnew_; (first | rw [← Ny664.out] at ho34 | (simp only [Int.reduceToNat] at ho34; rw [← Ny664.out] at ho34)); have n0_ := Aside0.mk (Kd.R_elder' (by (with_reducible repeat (first | apply Kd.R_alloc | apply Kd.R_drewN | apply Kd.R_drew)); exact HO658.out) (Kd.R_base ho34) hb); have n1_ := Aside0.mk (Kd.R_elder' (by (with_reducible repeat (first | apply Kd.R_alloc | apply Kd.R_drewN | apply Kd.R_drew)); exact HO660.out) (Kd.R_base ho34) hb); have n2_ := Aside0.mk (Kd.R_lower (Kd.R_new' (Kd.R_new' ho34 (Kd.R_lt (by (with_reducible repeat (first | apply Kd.R_alloc | apply Kd.R_drewN | apply Kd.R_drew)); exact HO658.out))) (Kd.R_lt (by (with_reducible repeat (first | apply Kd.R_alloc | apply Kd.R_drewN | apply Kd.R_drew)); exact HO660.out))) (below_size (by repeat (first | (with_reducible first | exact HB.out | apply below_alloc | apply pw_below_drewN | apply below_drew1) | exact HB.out)))); have n3_ := Aside0.mk (below_step (by repeat (first | (with_reducible first | exact HB.out | apply below_alloc | apply pw_below_drewN | apply below_drew1) | exact HB.out)) hb); clear HO658; clear HO660; clear HB; have HO658 := n0_; have HO660 := n1_; have HO666 := n2_; have HB := n3_; clear n0_ n1_ n2_ n3_; clear hb ho34) | ((with_reducible refine gate_builtin (b := .append) (xs := #[.tmp 50, .tmp 51]) rfl ?_); (try (refine gate_guard (by rfl) ?_; dsimp only)); at_builtin; refine Kd.R_append_rows k103 (w0 := w) w.heap.size rfl (.tmp 50) (.tmp 51) 35 103 (.agg #[(.int .i64 0), (.int .i64 0)]) 16 rfl Try.underlying35 info103 rfl (by decide) (by omega) v665 y664 t655 _ _ _ (fun k_ => some k_ ≠ (.slice Ao28 t655.length co28 : Value).ownBlock ∧ some k_ ≠ (.slice Ao31 t656.length co31 : Value).ownBlock) (fun _ => False) rfl rfl ?aO ?aR (fun _ _ h => h) (fun _ h => h.elim) ?aF ?aB ?aS ?aL ?_; (case aR => repeat (first | exact (Kd.R_reads' HO658.out).2.2 | (with_reducible refine Kd.C_alloc ?_ _) | (with_reducible refine Kd.C_drewN ?_ _) | (with_reducible refine Kd.C_drew ?_))); (case aB => exact (by repeat (first | (with_reducible first | exact HB.out | apply below_alloc | apply pw_below_drewN | apply below_drew1) | exact HB.out))); (case aF => exact (fun k_ hk => ⟨Kd.fresh' (Kd.R_lt (by (with_reducible repeat (first | apply Kd.R_alloc | apply Kd.R_drewN | apply Kd.R_drew)); exact HO658.out)) k_ hk, Kd.fresh' (Kd.R_lt (by (with_reducible repeat (first | apply Kd.R_alloc | apply Kd.R_drewN | apply Kd.R_drew)); exact HO660.out)) k_ hk⟩)); (case aO => exact (by (with_reducible repeat (first | apply Kd.R_alloc | apply Kd.R_drewN | apply Kd.R_drew)); exact Kd.R_mono HO666.out (fun _ hk => ⟨hk.1.2, hk.2⟩))); (case aS => exact (below_size (by repeat (first | (with_reducible first | exact HB.out | apply below_alloc | apply pw_below_drewN | apply below_drew1) | exact HB.out)))); (case aL => have := LMc23.out; omega); intro v668 w35 ho hb hg hat; rw [← Ny667.out] at ho; have n0_ := Aside0.mk (Kd.R_after (ok := (fun k_ => some k_ ≠ (.slice Ao31 t656.length co31 : Value).ownBlock)) (by (with_reducible repeat (first | apply Kd.R_alloc | apply Kd.R_drewN | apply Kd.R_drew)); exact HO658.out) hg hat); have n1_ := Aside0.mk (Kd.R_after (ok := (fun k_ => some k_ ≠ (.slice Ao28 t655.length co28 : Value).ownBlock)) (by (with_reducible repeat (first | apply Kd.R_alloc | apply Kd.R_drewN | apply Kd.R_drew)); exact HO660.out) hg hat); have n2_ := Aside0.mk (hb); have n3_ := Aside0.mk (ho); clear HO658; clear HO660; clear HB; clear HO666; have HO658 := n0_; have HO660 := n1_; have HB := n2_; have HO669 := n3_; clear n0_ n1_ n2_ n3_; clear ho hb hg hat) | ((with_reducible refine gate_builtin (b := .append) (xs := #[.tmp 52, .tmp 53]) rfl ?_); (try (refine gate_guard (by rfl) ?_; dsimp only)); at_builtin; refine Kd.R_append_rows k103 (w0 := w) w.heap.size rfl (.tmp 52) (.tmp 53) 35 103 (.agg #[(.int .i64 0), (.int .i64 0)]) 16 rfl Try.underlying35 info103 rfl (by decide) (by omega) v668 y667 t656 _ _ _ (fun k_ => some k_ ≠ (.slice Ao28 t655.length co28 : Value).ownBlock ∧ some k_ ≠ (.slice Ao31 t656.length co31 : Value).ownBlock) (fun _ => False) rfl rfl ?aO ?aR (fun _ _ h => h) (fun _ h => h.elim) ?aF ?aB ?aS ?aL ?_; (case aR => repeat (first | exact (Kd.R_reads' HO660.out).2.2 | (with_reducible refine Kd.C_alloc ?_ _) | (with_reducible refine Kd.C_drewN ?_ _) | (with_reducible refine Kd.C_drew ?_))); (case aB => exact (by repeat (first | (with_reducible first | exact HB.out | apply below_alloc | apply pw_below_drewN | apply below_drew1) | exact HB.out))); (case aF => exact (fun k_ hk => ⟨Kd.fresh' (Kd.R_lt (by (with_reducible repeat (first | apply Kd.R_alloc | apply Kd.R_drewN | apply Kd.R_drew)); exact HO658.out)) k_ hk, Kd.fresh' (Kd.R_lt (by (with_reducible repeat (first | apply Kd.R_alloc | apply Kd.R_drewN | apply Kd.R_drew)); exact HO660.out)) k_ hk⟩)); (case aO => exact (by (with_reducible repeat (first | apply Kd.R_alloc | apply Kd.R_drewN | apply Kd.R_drew)); exact HO669.out)); (case aS => exact (below_size (by repeat (first | (with_reducible first | exact HB.out | apply below_alloc | apply pw_below_drewN | apply below_drew1) | exact HB.out)))); (case aL => have := LMc24.out; omega); intro v671 w36 ho hb hg hat; rw [← Ny670.out] at ho; have n0_ := Aside0.mk (Kd.R_after (ok := (fun k_ => some k_ ≠ (.slice Ao31 t656.length co31 : Value).ownBlock)) (by (with_reducible repeat (first | apply Kd.R_alloc | apply Kd.R_drewN | apply Kd.R_drew)); exact HO658.out) hg hat); have n1_ := Aside0.mk (Kd.R_after (ok := (fun k_ => some k_ ≠ (.slice Ao28 t655.length co28 : Value).ownBlock)) (by (with_reducible repeat (first | apply Kd.R_alloc | apply Kd.R_drewN | apply Kd.R_drew)); exact HO660.out) hg hat); have n2_ := Aside0.mk (hb); have n3_ := Aside0.mk (ho); clear HO658; clear HO660; clear HB; clear HO669; have HO658 := n0_; have HO660 := n1_; have HB := n2_; have HO672 := n3_; clear n0_ n1_ n2_ n3_; clear ho hb hg hat; obtain ⟨Ao37, co37, eo37⟩ := Kd.R_slice HO672.out; subst eo37) | (go_at_call 38; (with_reducible refine (extent_Join.calls kj2 _ _ y670 t673 _ ?side1 ?side2 A25.out).mono ?_); (case side1 => repeat (first | exact (Kd.R_reads' HO672.out).2.2 | (with_reducible refine Kd.C_alloc ?_ _) | (with_reducible refine Kd.C_drewN ?_ _) | (with_reducible refine Kd.C_drew ?_))); (case side2 => exact (Kd.R_reads' HO672.out).2.1); rintro e w38 ⟨v674, rfl, ho0, hb⟩; have n0_ := Aside0.mk (Kd.R_elder' (by (with_reducible repeat (first | apply Kd.R_alloc | apply Kd.R_drewN | apply Kd.R_drew)); exact HO658.out) (Kd.R_base ho0) hb); have n1_ := Aside0.mk (Kd.R_elder' (by (with_reducible repeat (first | apply Kd.R_alloc | apply Kd.R_drewN | apply Kd.R_drew)); exact HO660.out) (Kd.R_base ho0) hb); have n2_ := Aside0.mk (Kd.R_elder' (by (with_reducible repeat (first | apply Kd.R_alloc | apply Kd.R_drewN | apply Kd.R_drew)); exact HO672.out) (Kd.R_base ho0) hb); have n3_ := Aside0.mk (Kd.R_lower (Kd.R_new' (Kd.R_new' (Kd.R_new' ho0 (Kd.R_lt (by (with_reducible repeat (first | apply Kd.R_alloc | apply Kd.R_drewN | apply Kd.R_drew)); exact HO658.out))) (Kd.R_lt (by (with_reducible repeat (first | apply Kd.R_alloc | apply Kd.R_drewN | apply Kd.R_drew)); exact HO660.out))) (Kd.R_lt (by (with_reducible repeat (first | apply Kd.R_alloc | apply Kd.R_drewN | apply Kd.R_drew)); exact HO672.out))) (below_size (by repeat (first | (with_reducible first | exact HB.out | apply below_alloc | apply pw_below_drewN | apply below_drew1) | exact HB.out)))); have n4_ := Aside0.mk (below_step (by repeat (first | (with_reducible first | exact HB.out | apply below_alloc | apply pw_below_drewN | apply below_drew1) | exact HB.out)) hb); clear HO658; clear HO660; clear HO672; clear HB; have HO658 := n0_; have HO660 := n1_; have HO672 := n2_; have HO675 := n3_; have HB := n4_; clear n0_ n1_ n2_ n3_ n4_; (try clear hb); (try clear hb2); (try clear hk); (try clear hi); (try clear ho0)) | (go_at_call 38; (with_reducible refine (extent_Join.calls kj2 _ _ l0 t676 _ ?side1 ?side2 A26.out).mono ?_); (case side1 => repeat (first | exact (Kd.C_below HR0.out HB.out) | (with_reducible refine Kd.C_alloc ?_ _) | (with_reducible refine Kd.C_drewN ?_ _) | (with_reducible refine Kd.C_drew ?_))); (case side2 => exact HC0.out); rintro e w39 ⟨v677, rfl, ho0, hb⟩; have n0_ := Aside0.mk (Kd.R_elder' (by (with_reducible repeat (first | apply Kd.R_alloc | apply Kd.R_drewN | apply Kd.R_drew)); exact HO658.out) (Kd.R_base ho0) hb); have n1_ := Aside0.mk (Kd.R_elder' (by (with_reducible repeat (first | apply Kd.R_alloc | apply Kd.R_drewN | apply Kd.R_drew)); exact HO660.out) (Kd.R_base ho0) hb); have n2_ := Aside0.mk (Kd.R_elder' (by (with_reducible repeat (first | apply Kd.R_alloc | apply Kd.R_drewN | apply Kd.R_drew)); exact HO672.out) (Kd.R_base ho0) hb); have n3_ := Aside0.mk (Kd.R_elder' (by (with_reducible repeat (first | apply Kd.R_alloc | apply Kd.R_drewN | apply Kd.R_drew)); exact HO675.out) (Kd.R_base ho0) hb); have n4_ := Aside0.mk (Kd.R_lower (Kd.R_new' (Kd.R_new' (Kd.R_new' (Kd.R_new' ho0 (Kd.R_lt (by (with_reducible repeat (first | apply Kd.R_alloc | apply Kd.R_drewN | apply Kd.R_drew)); exact HO658.out))) (Kd.R_lt (by (with_reducible repeat (first | apply Kd.R_alloc | apply Kd.R_drewN | apply Kd.R_drew)); exact HO660.out))) (Kd.R_lt (by (with_reducible repeat (first | apply Kd.R_alloc | apply Kd.R_drewN | apply Kd.R_drew)); exact HO672.out))) (Kd.R_lt (by (with_reducible repeat (first | apply Kd.R_alloc | apply Kd.R_drewN | apply Kd.R_drew)); exact HO675.out))) (below_size (by repeat (first | (with_reducible first | exact HB.out | apply below_alloc | apply pw_below_drewN | apply below_drew1) | exact HB.out)))); have n5_ := Aside0.mk (below_step (by repeat (first | (with_reducible first | exact HB.out | apply below_alloc | apply pw_below_drewN | apply below_drew1) | exact HB.out)) hb); clear HO658; clear HO660; clear HO672; clear HO675; clear HB; have HO658 := n0_; have HO660 := n1_; have HO672 := n2_; have HO675 := n3_; have HO678 := n4_; have HB := n5_; clear n0_ n1_ n2_ n3_ n4_ n5_; (try clear hb); (try clear hb2); (try clear hk); (try clear hi); (try clear ho0); obtain ⟨Ao40, co40, eo40⟩ := Kd.R_slice HO675.out; subst eo40; obtain ⟨Ao41, co41, eo41⟩ := Kd.R_slice HO678.out; subst eo41) | (go_at_call 37; (with_reducible refine (dasdref05_Same.calls kj2 _ _ t673 _ _ t676 t679 _ ?side1 ?side2 ?side3 ?side4 A27.out).mono ?_); (case side1 => repeat (first | exact (Kd.R_reads' HO675.out).2.2 | (with_reducible refine Kd.C_alloc ?_ _) | (with_reducible refine Kd.C_drewN ?_ _) | (with_reducible refine Kd.C_drew ?_))); (case side2 => exact (Kd.R_reads' HO675.out).2.1); (case side3 => repeat (first | exact (Kd.R_reads' HO678.out).2.2 | (with_reducible refine Kd.C_alloc ?_ _) | (with_reducible refine Kd.C_drewN ?_ _) | (with_reducible refine Kd.C_drew ?_))); (case side4 => exact (Kd.R_reads' HO678.out).2.1); rintro e w' ⟨rfl, ⟨nd, rfl⟩⟩))
                  go_meet
                  case rel => exact ⟨_, (!t679), (by first | rfl | (simp; done) | (simp [*]; done)), H', ⟨by have := HJ2.out; first | omega | exact Nat.le_refl _⟩, ⟨by repeat (first | (with_reducible first | exact HB.out | apply below_alloc | apply pw_below_drewN | apply below_drew1) | exact HB.out)⟩⟩
                · rw [if_neg c24] at H
                  exact absurd H (by simp)
              · rw [if_neg c23] at H
                exact absurd H (by simp)
            · rw [if_neg c22] at H
              have c22b0 : ((wrap64 (t662 + t663)) == t654) = false := beq_eq_false_iff_ne.mpr c22
              have c22b1 : ((wrap64 (t662 + t663)) != t654) = true := bne_iff_ne.mpr c22
              have H' := Aside0.mk H
              clear H
              obtain ⟨Ao42, co42, eo42⟩ := Kd.R_slice HO658.out
              subst eo42
              go_wp2_with (first | ((with_reducible refine gate_callee (f := 54) rfl ?_); refine goesL_ (some 34) rfl rfl Try.func54 (by kernel_rfl) rfl #[.slice Ao42 t655.length co42] rfl (by (try simp only [List.map_toArray, List.map_cons, List.map_nil]); first | done | rfl | (simp only [List.length_drop, List.length_take]; rfl)) ?_; (with_reducible refine (extent_Size.calls kj2 _ _ t655 t661 _ ?side1 ?side2 A16.out).mono ?_); (case side1 => repeat (first | exact (Kd.R_reads' HO658.out).2.2 | (with_reducible refine Kd.C_alloc ?_ _) | (with_reducible refine Kd.C_drewN ?_ _) | (with_reducible refine Kd.C_drew ?_))); (case side2 => exact (Kd.R_reads' HO658.out).2.1); rintro e w43 ⟨rfl, hb⟩; refine ⟨_, rfl, ?_⟩; have n0_ := Aside0.mk (Kd.R_below (by (with_reducible repeat (first | apply Kd.R_alloc | apply Kd.R_drewN | apply Kd.R_drew)); exact HO658.out) hb); have n1_ := Aside0.mk (Kd.R_below (by (with_reducible repeat (first | apply Kd.R_alloc | apply Kd.R_drewN | apply Kd.R_drew)); exact HO660.out) hb); have n2_ := Aside0.mk (below_step (by repeat (first | (with_reducible first | exact HB.out | apply below_alloc | apply pw_below_drewN | apply below_drew1) | exact HB.out)) hb); clear HO658; clear HO660; clear HB; have HO658 := n0_; have HO660 := n1_; have HB := n2_; clear n0_ n1_ n2_; (try clear hb); (try clear hb2); (try clear hk); (try clear hi)) | (go_at_call 54; (with_reducible refine (extent_Size.calls kj2 _ _ t655 t662 _ ?side1 ?side2 A20.out).mono ?_); (case side1 => repeat (first | exact (Kd.R_reads' HO658.out).2.2 | (with_reducible refine Kd.C_alloc ?_ _) | (with_reducible refine Kd.C_drewN ?_ _) | (with_reducible refine Kd.C_drew ?_))); (case side2 => exact (Kd.R_reads' HO658.out).2.1); rintro e w44 ⟨rfl, hb⟩; have n0_ := Aside0.mk (Kd.R_below (by (with_reducible repeat (first | apply Kd.R_alloc | apply Kd.R_drewN | apply Kd.R_drew)); exact HO658.out) hb); have n1_ := Aside0.mk (Kd.R_below (by (with_reducible repeat (first | apply Kd.R_alloc | apply Kd.R_drewN | apply Kd.R_drew)); exact HO660.out) hb); have n2_ := Aside0.mk (below_step (by repeat (first | (with_reducible first | exact HB.out | apply below_alloc | apply pw_below_drewN | apply below_drew1) | exact HB.out)) hb); clear HO658; clear HO660; clear HB; have HO658 := n0_; have HO660 := n1_; have HB := n2_; clear n0_ n1_ n2_; (try clear hb); (try clear hb2); (try clear hk); (try clear hi); obtain ⟨Ao45, co45, eo45⟩ := Kd.R_slice HO660.out; subst eo45) | (go_at_call 54; (with_reducible refine (extent_Size.calls kj2 _ _ t656 t663 _ ?side1 ?side2 A21.out).mono ?_); (case side1 => repeat (first | exact (Kd.R_reads' HO660.out).2.2 | (with_reducible refine Kd.C_alloc ?_ _) | (with_reducible refine Kd.C_drewN ?_ _) | (with_reducible refine Kd.C_drew ?_))); (case side2 => exact (Kd.R_reads' HO660.out).2.1); rintro e w46 ⟨rfl, hb⟩; have n0_ := Aside0.mk (Kd.R_below (by (with_reducible repeat (first | apply Kd.R_alloc | apply Kd.R_drewN | apply Kd.R_drew)); exact HO658.out) hb); have n1_ := Aside0.mk (Kd.R_below (by (with_reducible repeat (first | apply Kd.R_alloc | apply Kd.R_drewN | apply Kd.R_drew)); exact HO660.out) hb); have n2_ := Aside0.mk (below_step (by repeat (first | (with_reducible first | exact HB.out | apply below_alloc | apply pw_below_drewN | apply below_drew1) | exact HB.out)) hb); clear HO658; clear HO660; clear HB; have HO658 := n0_; have HO660 := n1_; have HB := n2_; clear n0_ n1_ n2_; (try clear hb); (try clear hb2); (try clear hk); (try clear hi)))
              go_meet
              case rel => exact ⟨_, (true), (by first | rfl | (simp; done) | (simp [*]; done)), H', ⟨by have := HJ2.out; first | omega | exact Nat.le_refl _⟩, ⟨by repeat (first | (with_reducible first | exact HB.out | apply below_alloc | apply pw_below_drewN | apply below_drew1) | exact HB.out)⟩⟩
          · rw [if_neg c19] at H
            have c19b0 : (t661 == (ji18)) = false := beq_eq_false_iff_ne.mpr c19
            have c19b1 : (t661 != (ji18)) = true := bne_iff_ne.mpr c19
            (first | rw [c19b0] | (simp only [i64_w, i32_w]; rw [c19b0]) | skip)
            have H' := Aside0.mk H
            clear H
            obtain ⟨Ao47, co47, eo47⟩ := Kd.R_slice HO658.out
            subst eo47
            go_wp2_with (first | ((with_reducible refine gate_callee (f := 54) rfl ?_); refine goesL_ (some 34) rfl rfl Try.func54 (by kernel_rfl) rfl #[.slice Ao47 t655.length co47] rfl (by (try simp only [List.map_toArray, List.map_cons, List.map_nil]); first | done | rfl | (simp only [List.length_drop, List.length_take]; rfl)) ?_; (with_reducible refine (extent_Size.calls kj2 _ _ t655 t661 _ ?side1 ?side2 A16.out).mono ?_); (case side1 => repeat (first | exact (Kd.R_reads' HO658.out).2.2 | (with_reducible refine Kd.C_alloc ?_ _) | (with_reducible refine Kd.C_drewN ?_ _) | (with_reducible refine Kd.C_drew ?_))); (case side2 => exact (Kd.R_reads' HO658.out).2.1); rintro e w48 ⟨rfl, hb⟩; refine ⟨_, rfl, ?_⟩; have n0_ := Aside0.mk (Kd.R_below (by (with_reducible repeat (first | apply Kd.R_alloc | apply Kd.R_drewN | apply Kd.R_drew)); exact HO658.out) hb); have n1_ := Aside0.mk (Kd.R_below (by (with_reducible repeat (first | apply Kd.R_alloc | apply Kd.R_drewN | apply Kd.R_drew)); exact HO660.out) hb); have n2_ := Aside0.mk (below_step (by repeat (first | (with_reducible first | exact HB.out | apply below_alloc | apply pw_below_drewN | apply below_drew1) | exact HB.out)) hb); clear HO658; clear HO660; clear HB; have HO658 := n0_; have HO660 := n1_; have HB := n2_; clear n0_ n1_ n2_; (try clear hb); (try clear hb2); (try clear hk); (try clear hi)))
            go_meet
            case rel => exact ⟨_, (true), (by first | rfl | (simp; done) | (simp [*]; done)), H', ⟨by have := HJ2.out; first | omega | exact Nat.le_refl _⟩, ⟨by repeat (first | (with_reducible first | exact HB.out | apply below_alloc | apply pw_below_drewN | apply below_drew1) | exact HB.out)⟩⟩
        case rest =>
          clear HC13
          try clear c1
          try clear c2
          try clear p2
          try clear c3
          try clear c5
          try clear p6
          try clear c8
          try clear c13
          try clear c19
          try clear c19b0
          try clear c19b1
          try clear c22
          try clear c22b0
          try clear c22b1
          try clear c23
          try clear c24
          try clear c34
          try clear c35
          try clear p2
          obtain ⟨kq, x60_12, rfl, HA, HJ12, HB⟩ := hcut
          cases kq with
          | zero => exact absurd HA.out (by simp [dasdlaw05_ExtentParts.j1])
          | succ kj12 =>
            have H := HA.out
            clear HA
            simp only [dasdlaw05_ExtentParts.j1] at H
            by_cases c49 : x60_12 = true
            · subst c49
              have H1 : (some false) = some r := by rw [if_pos rfl] at H; exact H
              clear H
              have H := H1
              clear H1
              obtain rfl := Option.some.inj H
              go_wp2
              go_ret
              exact ⟨by first | rfl | (simp [errW_none, errW_some] <;> rfl) | (simp [*, errW_none, errW_some] <;> rfl), by repeat (first | (with_reducible first | exact HB.out | apply below_alloc | apply pw_below_drewN | apply below_drew1) | exact HB.out)⟩
            · replace c49 := Bool.eq_false_iff.mpr c49
              subst c49
              have H1 : (dasdlaw05_ExtentParts.l0 kj12 l0 t654 0) = some r := by rw [if_neg (show ¬ (false = true) by decide)] at H; exact H
              clear H
              have H := H1
              clear H1
              have H' := Aside0.mk H
              clear H
              go_wp2
              go_loopg [8] kj12 (fun kq v8 w' => ∃ (x8_3 : Int), v8 = .int .i64 x8_3 ∧ Aside0 (dasdlaw05_ExtentParts.l0 kq l0 t654 x8_3 = some r) ∧ Aside0 (kq ≤ kj12) ∧ Aside0 (Below w.heap.size w w'))
              case atStart => exact ⟨(0), (by first | rfl | (simp; done) | (simp [*]; done)), H', ⟨Nat.le_refl _⟩, ⟨by repeat (first | (with_reducible first | exact HB.out | apply below_alloc | apply pw_below_drewN | apply below_drew1) | exact HB.out)⟩⟩
              case round =>
                clear H'
                try clear c1
                try clear c2
                try clear p2
                try clear c3
                try clear c4
                try clear c5
                try clear p6
                try clear c8
                try clear c13
                try clear c19
                try clear c19b0
                try clear c19b1
                try clear c22
                try clear c22b0
                try clear c22b1
                try clear c23
                try clear c24
                try clear c34
                try clear c35
                try clear c49
                try clear p2
                try clear p6
                obtain ⟨x8_3, rfl, HA, HK3, HB⟩ := hrel
                cases gk with
                | zero => exact absurd HA.out (by simp [dasdlaw05_ExtentParts.l0])
                | succ k3 =>
                  have H := HA.out
                  clear HA
                  simp only [dasdlaw05_ExtentParts.l0] at H
                  by_cases c50 : x8_3 < t654
                  · rw [if_pos c50] at H
                    have c50b0 : decide (x8_3 < t654) = true := decide_eq_true c50
                    clear c50
                    replace H := Option.bind_eq_some_iff.mp H
                    obtain ⟨⟨t682, t683⟩, A510, H⟩ := H
                    replace H : ((extent_Index.f k3 l0 t682).bind fun bt684 => ((extent_Join.f k3 l0).bind fun t686 => ((extent_At.f k3 t686 x8_3).bind fun bt689 => (if t683 = true then (if bt684.2 = true then (if bt689.2 = true then (if bt684.1 > x8_3 then (some false) else (if t682 = bt689.1 then ((extent_Contains.f k3 l0 t682).bind fun t691 => (if t691 = true then (if bt684.1 < x8_3 then ((extent_Disjoint.f k3 l0).bind fun t692 => (if t692 = true then (some false) else (dasdlaw05_ExtentParts.l0 k3 l0 t654 (wrap64 (x8_3 + 1))))) else (dasdlaw05_ExtentParts.l0 k3 l0 t654 (wrap64 (x8_3 + 1)))) else (some false))) else (some false))) else (some false)) else (some false)) else (some false))))) = some r := H
                    have A51 := Aside0.mk A510
                    clear A510
                    replace H := Option.bind_eq_some_iff.mp H
                    obtain ⟨⟨t684, t685⟩, A520, H⟩ := H
                    replace H : ((extent_Join.f k3 l0).bind fun t686 => ((extent_At.f k3 t686 x8_3).bind fun bt689 => (if t683 = true then (if t685 = true then (if bt689.2 = true then (if t684 > x8_3 then (some false) else (if t682 = bt689.1 then ((extent_Contains.f k3 l0 t682).bind fun t691 => (if t691 = true then (if t684 < x8_3 then ((extent_Disjoint.f k3 l0).bind fun t692 => (if t692 = true then (some false) else (dasdlaw05_ExtentParts.l0 k3 l0 t654 (wrap64 (x8_3 + 1))))) else (dasdlaw05_ExtentParts.l0 k3 l0 t654 (wrap64 (x8_3 + 1)))) else (some false))) else (some false))) else (some false)) else (some false)) else (some false)))) = some r := H
                    have A52 := Aside0.mk A520
                    clear A520
                    replace H := Option.bind_eq_some_iff.mp H
                    obtain ⟨t686, A530, H⟩ := H
                    replace H : ((extent_At.f k3 t686 x8_3).bind fun bt689 => (if t683 = true then (if t685 = true then (if bt689.2 = true then (if t684 > x8_3 then (some false) else (if t682 = bt689.1 then ((extent_Contains.f k3 l0 t682).bind fun t691 => (if t691 = true then (if t684 < x8_3 then ((extent_Disjoint.f k3 l0).bind fun t692 => (if t692 = true then (some false) else (dasdlaw05_ExtentParts.l0 k3 l0 t654 (wrap64 (x8_3 + 1))))) else (dasdlaw05_ExtentParts.l0 k3 l0 t654 (wrap64 (x8_3 + 1)))) else (some false))) else (some false))) else (some false)) else (some false)) else (some false))) = some r := H
                    have A53 := Aside0.mk A530
                    clear A530
                    replace H := Option.bind_eq_some_iff.mp H
                    obtain ⟨⟨t689, t690⟩, A540, H⟩ := H
                    replace H : (if t683 = true then (if t685 = true then (if t690 = true then (if t684 > x8_3 then (some false) else (if t682 = t689 then ((extent_Contains.f k3 l0 t682).bind fun t691 => (if t691 = true then (if t684 < x8_3 then ((extent_Disjoint.f k3 l0).bind fun t692 => (if t692 = true then (some false) else (dasdlaw05_ExtentParts.l0 k3 l0 t654 (wrap64 (x8_3 + 1))))) else (dasdlaw05_ExtentParts.l0 k3 l0 t654 (wrap64 (x8_3 + 1)))) else (some false))) else (some false))) else (some false)) else (some false)) else (some false)) = some r := H
                    have A54 := Aside0.mk A540
                    clear A540
                    by_cases c55 : t683 = true
                    · subst c55
                      have H1 : (if t685 = true then (if t690 = true then (if t684 > x8_3 then (some false) else (if t682 = t689 then ((extent_Contains.f k3 l0 t682).bind fun t691 => (if t691 = true then (if t684 < x8_3 then ((extent_Disjoint.f k3 l0).bind fun t692 => (if t692 = true then (some false) else (dasdlaw05_ExtentParts.l0 k3 l0 t654 (wrap64 (x8_3 + 1))))) else (dasdlaw05_ExtentParts.l0 k3 l0 t654 (wrap64 (x8_3 + 1)))) else (some false))) else (some false))) else (some false)) else (some false)) = some r := by rw [if_pos rfl] at H; exact H
                      clear H
                      have H := H1
                      clear H1
                      by_cases c56 : t685 = true
                      · subst c56
                        have H1 : (if t690 = true then (if t684 > x8_3 then (some false) else (if t682 = t689 then ((extent_Contains.f k3 l0 t682).bind fun t691 => (if t691 = true then (if t684 < x8_3 then ((extent_Disjoint.f k3 l0).bind fun t692 => (if t692 = true then (some false) else (dasdlaw05_ExtentParts.l0 k3 l0 t654 (wrap64 (x8_3 + 1))))) else (dasdlaw05_ExtentParts.l0 k3 l0 t654 (wrap64 (x8_3 + 1)))) else (some false))) else (some false))) else (some false)) = some r := by rw [if_pos rfl] at H; exact H
                        clear H
                        have H := H1
                        clear H1
                        by_cases c57 : t690 = true
                        · subst c57
                          have H1 : (if t684 > x8_3 then (some false) else (if t682 = t689 then ((extent_Contains.f k3 l0 t682).bind fun t691 => (if t691 = true then (if t684 < x8_3 then ((extent_Disjoint.f k3 l0).bind fun t692 => (if t692 = true then (some false) else (dasdlaw05_ExtentParts.l0 k3 l0 t654 (wrap64 (x8_3 + 1))))) else (dasdlaw05_ExtentParts.l0 k3 l0 t654 (wrap64 (x8_3 + 1)))) else (some false))) else (some false))) = some r := by rw [if_pos rfl] at H; exact H
                          clear H
                          have H := H1
                          clear H1
                          by_cases c58 : t684 > x8_3
                          · rw [if_pos c58] at H
                            have c58b0 : decide (x8_3 < t684) = true := decide_eq_true c58
                            clear c58
                            obtain rfl := Option.some.inj H
                            go_wp2_with (first | ((with_reducible refine gate_callee (f := 50) rfl ?_); refine goesL_ (some 69) rfl rfl Try.func50 (by kernel_rfl) rfl #[.slice A0 l0.length c0, .int .i64 x8_3] rfl (by (try simp only [List.map_toArray, List.map_cons, List.map_nil]); first | done | rfl | (simp only [List.length_drop, List.length_take]; rfl)) ?_; (with_reducible refine (extent_At.calls k3 _ _ l0 x8_3 t682 true _ ?side1 ?side2 A51.out).mono ?_); (case side1 => repeat (first | exact (Kd.C_below HR0.out HB.out) | (with_reducible refine Kd.C_alloc ?_ _) | (with_reducible refine Kd.C_drewN ?_ _) | (with_reducible refine Kd.C_drew ?_))); (case side2 => exact HC0.out); rintro e w59 ⟨rfl, hb⟩; refine ⟨_, rfl, ?_⟩; have n0_ := Aside0.mk (below_step (by repeat (first | (with_reducible first | exact HB.out | apply below_alloc | apply pw_below_drewN | apply below_drew1) | exact HB.out)) hb); clear HB; have HB := n0_; clear n0_; (try clear hb); (try clear hb2); (try clear hk); (try clear hi)) | ((with_reducible refine gate_callee (f := 52) rfl ?_); refine goesL_ (some 75) rfl rfl Try.func52 (by kernel_rfl) rfl #[.slice A0 l0.length c0, .int .i64 t682] rfl (by (try simp only [List.map_toArray, List.map_cons, List.map_nil]); first | done | rfl | (simp only [List.length_drop, List.length_take]; rfl)) ?_; (with_reducible refine (extent_Index.calls k3 _ _ l0 t682 t684 true _ ?side1 ?side2 A52.out).mono ?_); (case side1 => repeat (first | exact (Kd.C_below HR0.out HB.out) | (with_reducible refine Kd.C_alloc ?_ _) | (with_reducible refine Kd.C_drewN ?_ _) | (with_reducible refine Kd.C_drew ?_))); (case side2 => exact HC0.out); rintro e w60 ⟨rfl, hb⟩; refine ⟨_, rfl, ?_⟩; have n0_ := Aside0.mk (below_step (by repeat (first | (with_reducible first | exact HB.out | apply below_alloc | apply pw_below_drewN | apply below_drew1) | exact HB.out)) hb); clear HB; have HB := n0_; clear n0_; (try clear hb); (try clear hb2); (try clear hk); (try clear hi)) | ((with_reducible refine gate_callee (f := 38) rfl ?_); refine goesL_ (some 80) rfl rfl Try.func38 (by kernel_rfl) rfl #[.slice A0 l0.length c0] rfl (by (try simp only [List.map_toArray, List.map_cons, List.map_nil]); first | done | rfl | (simp only [List.length_drop, List.length_take]; rfl)) ?_; (with_reducible refine (extent_Join.calls k3 _ _ l0 t686 _ ?side1 ?side2 A53.out).mono ?_); (case side1 => repeat (first | exact (Kd.C_below HR0.out HB.out) | (with_reducible refine Kd.C_alloc ?_ _) | (with_reducible refine Kd.C_drewN ?_ _) | (with_reducible refine Kd.C_drew ?_))); (case side2 => exact HC0.out); rintro e w61 ⟨v687, rfl, ho0, hb⟩; refine ⟨_, rfl, ?_⟩; have n0_ := Aside0.mk (Kd.R_lower ho0 (below_size (by repeat (first | (with_reducible first | exact HB.out | apply below_alloc | apply pw_below_drewN | apply below_drew1) | exact HB.out)))); have n1_ := Aside0.mk (below_step (by repeat (first | (with_reducible first | exact HB.out | apply below_alloc | apply pw_below_drewN | apply below_drew1) | exact HB.out)) hb); clear HB; have HO688 := n0_; have HB := n1_; clear n0_ n1_; (try clear hb); (try clear hb2); (try clear hk); (try clear hi); (try clear ho0); obtain ⟨Ao62, co62, eo62⟩ := Kd.R_slice HO688.out; subst eo62) | ((with_reducible refine gate_callee (f := 50) rfl ?_); refine goesL_ (some 82) rfl rfl Try.func50 (by kernel_rfl) rfl #[.slice Ao62 t686.length co62, .int .i64 x8_3] rfl (by (try simp only [List.map_toArray, List.map_cons, List.map_nil]); first | done | rfl | (simp only [List.length_drop, List.length_take]; rfl)) ?_; (with_reducible refine (extent_At.calls k3 _ _ t686 x8_3 t689 true _ ?side1 ?side2 A54.out).mono ?_); (case side1 => repeat (first | exact (Kd.R_reads' HO688.out).2.2 | (with_reducible refine Kd.C_alloc ?_ _) | (with_reducible refine Kd.C_drewN ?_ _) | (with_reducible refine Kd.C_drew ?_))); (case side2 => exact (Kd.R_reads' HO688.out).2.1); rintro e w63 ⟨rfl, hb⟩; refine ⟨_, rfl, ?_⟩; have n0_ := Aside0.mk (Kd.R_below (by (with_reducible repeat (first | apply Kd.R_alloc | apply Kd.R_drewN | apply Kd.R_drew)); exact HO688.out) hb); have n1_ := Aside0.mk (below_step (by repeat (first | (with_reducible first | exact HB.out | apply below_alloc | apply pw_below_drewN | apply below_drew1) | exact HB.out)) hb); clear HO688; clear HB; have HO688 := n0_; have HB := n1_; clear n0_ n1_; (try clear hb); (try clear hb2); (try clear hk); (try clear hi)))
                            go_ret
                            exact ⟨by first | rfl | (simp [errW_none, errW_some] <;> rfl) | (simp [*, errW_none, errW_some] <;> rfl), by repeat (first | (with_reducible first | exact HB.out | apply below_alloc | apply pw_below_drewN | apply below_drew1) | exact HB.out)⟩
                          · rw [if_neg c58] at H
                            have c58b0 : decide (x8_3 < t684) = false := decide_eq_false c58
                            clear c58
                            by_cases c64 : t682 = t689
                            · rw [if_pos c64] at H
                              have c64b0 : (t682 == t689) = true := beq_iff_eq.mpr c64
                              have c64b1 : (t682 != t689) = false := bne_eq_false_iff_eq.mpr c64
                              clear c64
                              replace H := Option.bind_eq_some_iff.mp H
                              obtain ⟨t691, A650, H⟩ := H
                              replace H : (if t691 = true then (if t684 < x8_3 then ((extent_Disjoint.f k3 l0).bind fun t692 => (if t692 = true then (some false) else (dasdlaw05_ExtentParts.l0 k3 l0 t654 (wrap64 (x8_3 + 1))))) else (dasdlaw05_ExtentParts.l0 k3 l0 t654 (wrap64 (x8_3 + 1)))) else (some false)) = some r := H
                              have A65 := Aside0.mk A650
                              clear A650
                              by_cases c66 : t691 = true
                              · subst c66
                                have H1 : (if t684 < x8_3 then ((extent_Disjoint.f k3 l0).bind fun t692 => (if t692 = true then (some false) else (dasdlaw05_ExtentParts.l0 k3 l0 t654 (wrap64 (x8_3 + 1))))) else (dasdlaw05_ExtentParts.l0 k3 l0 t654 (wrap64 (x8_3 + 1)))) = some r := by rw [if_pos rfl] at H; exact H
                                clear H
                                have H := H1
                                clear H1
                                by_cases c67 : t684 < x8_3
                                · rw [if_pos c67] at H
                                  have c67b0 : decide (t684 < x8_3) = true := decide_eq_true c67
                                  clear c67
                                  replace H := Option.bind_eq_some_iff.mp H
                                  obtain ⟨t692, A680, H⟩ := H
                                  replace H : (if t692 = true then (some false) else (dasdlaw05_ExtentParts.l0 k3 l0 t654 (wrap64 (x8_3 + 1)))) = some r := H
                                  have A68 := Aside0.mk A680
                                  clear A680
                                  by_cases c69 : t692 = true
                                  · subst c69
                                    have H1 : (some false) = some r := by rw [if_pos rfl] at H; exact H
                                    clear H
                                    have H := H1
                                    clear H1
                                    obtain rfl := Option.some.inj H
                                    go_wp2_with (first | ((with_reducible refine gate_callee (f := 50) rfl ?_); refine goesL_ (some 69) rfl rfl Try.func50 (by kernel_rfl) rfl #[.slice A0 l0.length c0, .int .i64 x8_3] rfl (by (try simp only [List.map_toArray, List.map_cons, List.map_nil]); first | done | rfl | (simp only [List.length_drop, List.length_take]; rfl)) ?_; (with_reducible refine (extent_At.calls k3 _ _ l0 x8_3 t682 true _ ?side1 ?side2 A51.out).mono ?_); (case side1 => repeat (first | exact (Kd.C_below HR0.out HB.out) | (with_reducible refine Kd.C_alloc ?_ _) | (with_reducible refine Kd.C_drewN ?_ _) | (with_reducible refine Kd.C_drew ?_))); (case side2 => exact HC0.out); rintro e w70 ⟨rfl, hb⟩; refine ⟨_, rfl, ?_⟩; have n0_ := Aside0.mk (below_step (by repeat (first | (with_reducible first | exact HB.out | apply below_alloc | apply pw_below_drewN | apply below_drew1) | exact HB.out)) hb); clear HB; have HB := n0_; clear n0_; (try clear hb); (try clear hb2); (try clear hk); (try clear hi)) | ((with_reducible refine gate_callee (f := 52) rfl ?_); refine goesL_ (some 75) rfl rfl Try.func52 (by kernel_rfl) rfl #[.slice A0 l0.length c0, .int .i64 t682] rfl (by (try simp only [List.map_toArray, List.map_cons, List.map_nil]); first | done | rfl | (simp only [List.length_drop, List.length_take]; rfl)) ?_; (with_reducible refine (extent_Index.calls k3 _ _ l0 t682 t684 true _ ?side1 ?side2 A52.out).mono ?_); (case side1 => repeat (first | exact (Kd.C_below HR0.out HB.out) | (with_reducible refine Kd.C_alloc ?_ _) | (with_reducible refine Kd.C_drewN ?_ _) | (with_reducible refine Kd.C_drew ?_))); (case side2 => exact HC0.out); rintro e w71 ⟨rfl, hb⟩; refine ⟨_, rfl, ?_⟩; have n0_ := Aside0.mk (below_step (by repeat (first | (with_reducible first | exact HB.out | apply below_alloc | apply pw_below_drewN | apply below_drew1) | exact HB.out)) hb); clear HB; have HB := n0_; clear n0_; (try clear hb); (try clear hb2); (try clear hk); (try clear hi)) | ((with_reducible refine gate_callee (f := 38) rfl ?_); refine goesL_ (some 80) rfl rfl Try.func38 (by kernel_rfl) rfl #[.slice A0 l0.length c0] rfl (by (try simp only [List.map_toArray, List.map_cons, List.map_nil]); first | done | rfl | (simp only [List.length_drop, List.length_take]; rfl)) ?_; (with_reducible refine (extent_Join.calls k3 _ _ l0 t686 _ ?side1 ?side2 A53.out).mono ?_); (case side1 => repeat (first | exact (Kd.C_below HR0.out HB.out) | (with_reducible refine Kd.C_alloc ?_ _) | (with_reducible refine Kd.C_drewN ?_ _) | (with_reducible refine Kd.C_drew ?_))); (case side2 => exact HC0.out); rintro e w72 ⟨v687, rfl, ho0, hb⟩; refine ⟨_, rfl, ?_⟩; have n0_ := Aside0.mk (Kd.R_lower ho0 (below_size (by repeat (first | (with_reducible first | exact HB.out | apply below_alloc | apply pw_below_drewN | apply below_drew1) | exact HB.out)))); have n1_ := Aside0.mk (below_step (by repeat (first | (with_reducible first | exact HB.out | apply below_alloc | apply pw_below_drewN | apply below_drew1) | exact HB.out)) hb); clear HB; have HO688 := n0_; have HB := n1_; clear n0_ n1_; (try clear hb); (try clear hb2); (try clear hk); (try clear hi); (try clear ho0); obtain ⟨Ao73, co73, eo73⟩ := Kd.R_slice HO688.out; subst eo73) | ((with_reducible refine gate_callee (f := 50) rfl ?_); refine goesL_ (some 82) rfl rfl Try.func50 (by kernel_rfl) rfl #[.slice Ao73 t686.length co73, .int .i64 x8_3] rfl (by (try simp only [List.map_toArray, List.map_cons, List.map_nil]); first | done | rfl | (simp only [List.length_drop, List.length_take]; rfl)) ?_; (with_reducible refine (extent_At.calls k3 _ _ t686 x8_3 t689 true _ ?side1 ?side2 A54.out).mono ?_); (case side1 => repeat (first | exact (Kd.R_reads' HO688.out).2.2 | (with_reducible refine Kd.C_alloc ?_ _) | (with_reducible refine Kd.C_drewN ?_ _) | (with_reducible refine Kd.C_drew ?_))); (case side2 => exact (Kd.R_reads' HO688.out).2.1); rintro e w74 ⟨rfl, hb⟩; refine ⟨_, rfl, ?_⟩; have n0_ := Aside0.mk (Kd.R_below (by (with_reducible repeat (first | apply Kd.R_alloc | apply Kd.R_drewN | apply Kd.R_drew)); exact HO688.out) hb); have n1_ := Aside0.mk (below_step (by repeat (first | (with_reducible first | exact HB.out | apply below_alloc | apply pw_below_drewN | apply below_drew1) | exact HB.out)) hb); clear HO688; clear HB; have HO688 := n0_; have HB := n1_; clear n0_ n1_; (try clear hb); (try clear hb2); (try clear hk); (try clear hi)) | (go_at_call 69; (with_reducible refine (extent_Contains.calls k3 _ _ l0 t682 true _ ?side1 ?side2 A65.out).mono ?_); (case side1 => repeat (first | exact (Kd.C_below HR0.out HB.out) | (with_reducible refine Kd.C_alloc ?_ _) | (with_reducible refine Kd.C_drewN ?_ _) | (with_reducible refine Kd.C_drew ?_))); (case side2 => exact HC0.out); rintro e w75 ⟨rfl, hb⟩; have n0_ := Aside0.mk (Kd.R_below (by (with_reducible repeat (first | apply Kd.R_alloc | apply Kd.R_drewN | apply Kd.R_drew)); exact HO688.out) hb); have n1_ := Aside0.mk (below_step (by repeat (first | (with_reducible first | exact HB.out | apply below_alloc | apply pw_below_drewN | apply below_drew1) | exact HB.out)) hb); clear HO688; clear HB; have HO688 := n0_; have HB := n1_; clear n0_ n1_; (try clear hb); (try clear hb2); (try clear hk); (try clear hi)) | (go_at_call 56; (with_reducible refine (extent_Disjoint.calls k3 _ _ l0 true _ ?side1 ?side2 A68.out).mono ?_); (case side1 => repeat (first | exact (Kd.C_below HR0.out HB.out) | (with_reducible refine Kd.C_alloc ?_ _) | (with_reducible refine Kd.C_drewN ?_ _) | (with_reducible refine Kd.C_drew ?_))); (case side2 => exact HC0.out); rintro e w76 ⟨rfl, hb⟩; have n0_ := Aside0.mk (Kd.R_below (by (with_reducible repeat (first | apply Kd.R_alloc | apply Kd.R_drewN | apply Kd.R_drew)); exact HO688.out) hb); have n1_ := Aside0.mk (below_step (by repeat (first | (with_reducible first | exact HB.out | apply below_alloc | apply pw_below_drewN | apply below_drew1) | exact HB.out)) hb); clear HO688; clear HB; have HO688 := n0_; have HB := n1_; clear n0_ n1_; (try clear hb); (try clear hb2); (try clear hk); (try clear hi)))
                                    go_ret
                                    exact ⟨by first | rfl | (simp [errW_none, errW_some] <;> rfl) | (simp [*, errW_none, errW_some] <;> rfl), by repeat (first | (with_reducible first | exact HB.out | apply below_alloc | apply pw_below_drewN | apply below_drew1) | exact HB.out)⟩
                                  · replace c69 := Bool.eq_false_iff.mpr c69
                                    subst c69
                                    have H1 : (dasdlaw05_ExtentParts.l0 k3 l0 t654 (wrap64 (x8_3 + 1))) = some r := by rw [if_neg (show ¬ (false = true) by decide)] at H; exact H
                                    clear H
                                    have H := H1
                                    clear H1
                                    have H' := Aside0.mk H
                                    clear H
                                    go_wp2_with (first | ((with_reducible refine gate_callee (f := 50) rfl ?_); refine goesL_ (some 69) rfl rfl Try.func50 (by kernel_rfl) rfl #[.slice A0 l0.length c0, .int .i64 x8_3] rfl (by (try simp only [List.map_toArray, List.map_cons, List.map_nil]); first | done | rfl | (simp only [List.length_drop, List.length_take]; rfl)) ?_; (with_reducible refine (extent_At.calls k3 _ _ l0 x8_3 t682 true _ ?side1 ?side2 A51.out).mono ?_); (case side1 => repeat (first | exact (Kd.C_below HR0.out HB.out) | (with_reducible refine Kd.C_alloc ?_ _) | (with_reducible refine Kd.C_drewN ?_ _) | (with_reducible refine Kd.C_drew ?_))); (case side2 => exact HC0.out); rintro e w77 ⟨rfl, hb⟩; refine ⟨_, rfl, ?_⟩; have n0_ := Aside0.mk (below_step (by repeat (first | (with_reducible first | exact HB.out | apply below_alloc | apply pw_below_drewN | apply below_drew1) | exact HB.out)) hb); clear HB; have HB := n0_; clear n0_; (try clear hb); (try clear hb2); (try clear hk); (try clear hi)) | ((with_reducible refine gate_callee (f := 52) rfl ?_); refine goesL_ (some 75) rfl rfl Try.func52 (by kernel_rfl) rfl #[.slice A0 l0.length c0, .int .i64 t682] rfl (by (try simp only [List.map_toArray, List.map_cons, List.map_nil]); first | done | rfl | (simp only [List.length_drop, List.length_take]; rfl)) ?_; (with_reducible refine (extent_Index.calls k3 _ _ l0 t682 t684 true _ ?side1 ?side2 A52.out).mono ?_); (case side1 => repeat (first | exact (Kd.C_below HR0.out HB.out) | (with_reducible refine Kd.C_alloc ?_ _) | (with_reducible refine Kd.C_drewN ?_ _) | (with_reducible refine Kd.C_drew ?_))); (case side2 => exact HC0.out); rintro e w78 ⟨rfl, hb⟩; refine ⟨_, rfl, ?_⟩; have n0_ := Aside0.mk (below_step (by repeat (first | (with_reducible first | exact HB.out | apply below_alloc | apply pw_below_drewN | apply below_drew1) | exact HB.out)) hb); clear HB; have HB := n0_; clear n0_; (try clear hb); (try clear hb2); (try clear hk); (try clear hi)) | ((with_reducible refine gate_callee (f := 38) rfl ?_); refine goesL_ (some 80) rfl rfl Try.func38 (by kernel_rfl) rfl #[.slice A0 l0.length c0] rfl (by (try simp only [List.map_toArray, List.map_cons, List.map_nil]); first | done | rfl | (simp only [List.length_drop, List.length_take]; rfl)) ?_; (with_reducible refine (extent_Join.calls k3 _ _ l0 t686 _ ?side1 ?side2 A53.out).mono ?_); (case side1 => repeat (first | exact (Kd.C_below HR0.out HB.out) | (with_reducible refine Kd.C_alloc ?_ _) | (with_reducible refine Kd.C_drewN ?_ _) | (with_reducible refine Kd.C_drew ?_))); (case side2 => exact HC0.out); rintro e w79 ⟨v687, rfl, ho0, hb⟩; refine ⟨_, rfl, ?_⟩; have n0_ := Aside0.mk (Kd.R_lower ho0 (below_size (by repeat (first | (with_reducible first | exact HB.out | apply below_alloc | apply pw_below_drewN | apply below_drew1) | exact HB.out)))); have n1_ := Aside0.mk (below_step (by repeat (first | (with_reducible first | exact HB.out | apply below_alloc | apply pw_below_drewN | apply below_drew1) | exact HB.out)) hb); clear HB; have HO688 := n0_; have HB := n1_; clear n0_ n1_; (try clear hb); (try clear hb2); (try clear hk); (try clear hi); (try clear ho0); obtain ⟨Ao80, co80, eo80⟩ := Kd.R_slice HO688.out; subst eo80) | ((with_reducible refine gate_callee (f := 50) rfl ?_); refine goesL_ (some 82) rfl rfl Try.func50 (by kernel_rfl) rfl #[.slice Ao80 t686.length co80, .int .i64 x8_3] rfl (by (try simp only [List.map_toArray, List.map_cons, List.map_nil]); first | done | rfl | (simp only [List.length_drop, List.length_take]; rfl)) ?_; (with_reducible refine (extent_At.calls k3 _ _ t686 x8_3 t689 true _ ?side1 ?side2 A54.out).mono ?_); (case side1 => repeat (first | exact (Kd.R_reads' HO688.out).2.2 | (with_reducible refine Kd.C_alloc ?_ _) | (with_reducible refine Kd.C_drewN ?_ _) | (with_reducible refine Kd.C_drew ?_))); (case side2 => exact (Kd.R_reads' HO688.out).2.1); rintro e w81 ⟨rfl, hb⟩; refine ⟨_, rfl, ?_⟩; have n0_ := Aside0.mk (Kd.R_below (by (with_reducible repeat (first | apply Kd.R_alloc | apply Kd.R_drewN | apply Kd.R_drew)); exact HO688.out) hb); have n1_ := Aside0.mk (below_step (by repeat (first | (with_reducible first | exact HB.out | apply below_alloc | apply pw_below_drewN | apply below_drew1) | exact HB.out)) hb); clear HO688; clear HB; have HO688 := n0_; have HB := n1_; clear n0_ n1_; (try clear hb); (try clear hb2); (try clear hk); (try clear hi)) | (go_at_call 69; (with_reducible refine (extent_Contains.calls k3 _ _ l0 t682 true _ ?side1 ?side2 A65.out).mono ?_); (case side1 => repeat (first | exact (Kd.C_below HR0.out HB.out) | (with_reducible refine Kd.C_alloc ?_ _) | (with_reducible refine Kd.C_drewN ?_ _) | (with_reducible refine Kd.C_drew ?_))); (case side2 => exact HC0.out); rintro e w82 ⟨rfl, hb⟩; have n0_ := Aside0.mk (Kd.R_below (by (with_reducible repeat (first | apply Kd.R_alloc | apply Kd.R_drewN | apply Kd.R_drew)); exact HO688.out) hb); have n1_ := Aside0.mk (below_step (by repeat (first | (with_reducible first | exact HB.out | apply below_alloc | apply pw_below_drewN | apply below_drew1) | exact HB.out)) hb); clear HO688; clear HB; have HO688 := n0_; have HB := n1_; clear n0_ n1_; (try clear hb); (try clear hb2); (try clear hk); (try clear hi)) | (go_at_call 56; (with_reducible refine (extent_Disjoint.calls k3 _ _ l0 false _ ?side1 ?side2 A68.out).mono ?_); (case side1 => repeat (first | exact (Kd.C_below HR0.out HB.out) | (with_reducible refine Kd.C_alloc ?_ _) | (with_reducible refine Kd.C_drewN ?_ _) | (with_reducible refine Kd.C_drew ?_))); (case side2 => exact HC0.out); rintro e w83 ⟨rfl, hb⟩; have n0_ := Aside0.mk (Kd.R_below (by (with_reducible repeat (first | apply Kd.R_alloc | apply Kd.R_drewN | apply Kd.R_drew)); exact HO688.out) hb); have n1_ := Aside0.mk (below_step (by repeat (first | (with_reducible first | exact HB.out | apply below_alloc | apply pw_below_drewN | apply below_drew1) | exact HB.out)) hb); clear HO688; clear HB; have HO688 := n0_; have HB := n1_; clear n0_ n1_; (try clear hb); (try clear hb2); (try clear hk); (try clear hi)))
                                    go_roundg k3
                                    case measure => have := HJ2.out; have := HJ12.out; have := HK3.out; omega
                                    case rel => exact ⟨(wrap64 (x8_3 + 1)), (by first | rfl | (simp; done) | (simp [*]; done)), H', ⟨by have := HJ2.out; have := HJ12.out; have := HK3.out; omega⟩, ⟨by repeat (first | (with_reducible first | exact HB.out | apply below_alloc | apply pw_below_drewN | apply below_drew1) | exact HB.out)⟩⟩
                                · rw [if_neg c67] at H
                                  have c67b0 : decide (t684 < x8_3) = false := decide_eq_false c67
                                  clear c67
                                  have H' := Aside0.mk H
                                  clear H
                                  go_wp2_with (first | ((with_reducible refine gate_callee (f := 50) rfl ?_); refine goesL_ (some 69) rfl rfl Try.func50 (by kernel_rfl) rfl #[.slice A0 l0.length c0, .int .i64 x8_3] rfl (by (try simp only [List.map_toArray, List.map_cons, List.map_nil]); first | done | rfl | (simp only [List.length_drop, List.length_take]; rfl)) ?_; (with_reducible refine (extent_At.calls k3 _ _ l0 x8_3 t682 true _ ?side1 ?side2 A51.out).mono ?_); (case side1 => repeat (first | exact (Kd.C_below HR0.out HB.out) | (with_reducible refine Kd.C_alloc ?_ _) | (with_reducible refine Kd.C_drewN ?_ _) | (with_reducible refine Kd.C_drew ?_))); (case side2 => exact HC0.out); rintro e w84 ⟨rfl, hb⟩; refine ⟨_, rfl, ?_⟩; have n0_ := Aside0.mk (below_step (by repeat (first | (with_reducible first | exact HB.out | apply below_alloc | apply pw_below_drewN | apply below_drew1) | exact HB.out)) hb); clear HB; have HB := n0_; clear n0_; (try clear hb); (try clear hb2); (try clear hk); (try clear hi)) | ((with_reducible refine gate_callee (f := 52) rfl ?_); refine goesL_ (some 75) rfl rfl Try.func52 (by kernel_rfl) rfl #[.slice A0 l0.length c0, .int .i64 t682] rfl (by (try simp only [List.map_toArray, List.map_cons, List.map_nil]); first | done | rfl | (simp only [List.length_drop, List.length_take]; rfl)) ?_; (with_reducible refine (extent_Index.calls k3 _ _ l0 t682 t684 true _ ?side1 ?side2 A52.out).mono ?_); (case side1 => repeat (first | exact (Kd.C_below HR0.out HB.out) | (with_reducible refine Kd.C_alloc ?_ _) | (with_reducible refine Kd.C_drewN ?_ _) | (with_reducible refine Kd.C_drew ?_))); (case side2 => exact HC0.out); rintro e w85 ⟨rfl, hb⟩; refine ⟨_, rfl, ?_⟩; have n0_ := Aside0.mk (below_step (by repeat (first | (with_reducible first | exact HB.out | apply below_alloc | apply pw_below_drewN | apply below_drew1) | exact HB.out)) hb); clear HB; have HB := n0_; clear n0_; (try clear hb); (try clear hb2); (try clear hk); (try clear hi)) | ((with_reducible refine gate_callee (f := 38) rfl ?_); refine goesL_ (some 80) rfl rfl Try.func38 (by kernel_rfl) rfl #[.slice A0 l0.length c0] rfl (by (try simp only [List.map_toArray, List.map_cons, List.map_nil]); first | done | rfl | (simp only [List.length_drop, List.length_take]; rfl)) ?_; (with_reducible refine (extent_Join.calls k3 _ _ l0 t686 _ ?side1 ?side2 A53.out).mono ?_); (case side1 => repeat (first | exact (Kd.C_below HR0.out HB.out) | (with_reducible refine Kd.C_alloc ?_ _) | (with_reducible refine Kd.C_drewN ?_ _) | (with_reducible refine Kd.C_drew ?_))); (case side2 => exact HC0.out); rintro e w86 ⟨v687, rfl, ho0, hb⟩; refine ⟨_, rfl, ?_⟩; have n0_ := Aside0.mk (Kd.R_lower ho0 (below_size (by repeat (first | (with_reducible first | exact HB.out | apply below_alloc | apply pw_below_drewN | apply below_drew1) | exact HB.out)))); have n1_ := Aside0.mk (below_step (by repeat (first | (with_reducible first | exact HB.out | apply below_alloc | apply pw_below_drewN | apply below_drew1) | exact HB.out)) hb); clear HB; have HO688 := n0_; have HB := n1_; clear n0_ n1_; (try clear hb); (try clear hb2); (try clear hk); (try clear hi); (try clear ho0); obtain ⟨Ao87, co87, eo87⟩ := Kd.R_slice HO688.out; subst eo87) | ((with_reducible refine gate_callee (f := 50) rfl ?_); refine goesL_ (some 82) rfl rfl Try.func50 (by kernel_rfl) rfl #[.slice Ao87 t686.length co87, .int .i64 x8_3] rfl (by (try simp only [List.map_toArray, List.map_cons, List.map_nil]); first | done | rfl | (simp only [List.length_drop, List.length_take]; rfl)) ?_; (with_reducible refine (extent_At.calls k3 _ _ t686 x8_3 t689 true _ ?side1 ?side2 A54.out).mono ?_); (case side1 => repeat (first | exact (Kd.R_reads' HO688.out).2.2 | (with_reducible refine Kd.C_alloc ?_ _) | (with_reducible refine Kd.C_drewN ?_ _) | (with_reducible refine Kd.C_drew ?_))); (case side2 => exact (Kd.R_reads' HO688.out).2.1); rintro e w88 ⟨rfl, hb⟩; refine ⟨_, rfl, ?_⟩; have n0_ := Aside0.mk (Kd.R_below (by (with_reducible repeat (first | apply Kd.R_alloc | apply Kd.R_drewN | apply Kd.R_drew)); exact HO688.out) hb); have n1_ := Aside0.mk (below_step (by repeat (first | (with_reducible first | exact HB.out | apply below_alloc | apply pw_below_drewN | apply below_drew1) | exact HB.out)) hb); clear HO688; clear HB; have HO688 := n0_; have HB := n1_; clear n0_ n1_; (try clear hb); (try clear hb2); (try clear hk); (try clear hi)) | (go_at_call 69; (with_reducible refine (extent_Contains.calls k3 _ _ l0 t682 true _ ?side1 ?side2 A65.out).mono ?_); (case side1 => repeat (first | exact (Kd.C_below HR0.out HB.out) | (with_reducible refine Kd.C_alloc ?_ _) | (with_reducible refine Kd.C_drewN ?_ _) | (with_reducible refine Kd.C_drew ?_))); (case side2 => exact HC0.out); rintro e w89 ⟨rfl, hb⟩; have n0_ := Aside0.mk (Kd.R_below (by (with_reducible repeat (first | apply Kd.R_alloc | apply Kd.R_drewN | apply Kd.R_drew)); exact HO688.out) hb); have n1_ := Aside0.mk (below_step (by repeat (first | (with_reducible first | exact HB.out | apply below_alloc | apply pw_below_drewN | apply below_drew1) | exact HB.out)) hb); clear HO688; clear HB; have HO688 := n0_; have HB := n1_; clear n0_ n1_; (try clear hb); (try clear hb2); (try clear hk); (try clear hi)))
                                  go_roundg k3
                                  case measure => have := HJ2.out; have := HJ12.out; have := HK3.out; omega
                                  case rel => exact ⟨(wrap64 (x8_3 + 1)), (by first | rfl | (simp; done) | (simp [*]; done)), H', ⟨by have := HJ2.out; have := HJ12.out; have := HK3.out; omega⟩, ⟨by repeat (first | (with_reducible first | exact HB.out | apply below_alloc | apply pw_below_drewN | apply below_drew1) | exact HB.out)⟩⟩
                              · replace c66 := Bool.eq_false_iff.mpr c66
                                subst c66
                                have H1 : (some false) = some r := by rw [if_neg (show ¬ (false = true) by decide)] at H; exact H
                                clear H
                                have H := H1
                                clear H1
                                obtain rfl := Option.some.inj H
                                go_wp2_with (first | ((with_reducible refine gate_callee (f := 50) rfl ?_); refine goesL_ (some 69) rfl rfl Try.func50 (by kernel_rfl) rfl #[.slice A0 l0.length c0, .int .i64 x8_3] rfl (by (try simp only [List.map_toArray, List.map_cons, List.map_nil]); first | done | rfl | (simp only [List.length_drop, List.length_take]; rfl)) ?_; (with_reducible refine (extent_At.calls k3 _ _ l0 x8_3 t682 true _ ?side1 ?side2 A51.out).mono ?_); (case side1 => repeat (first | exact (Kd.C_below HR0.out HB.out) | (with_reducible refine Kd.C_alloc ?_ _) | (with_reducible refine Kd.C_drewN ?_ _) | (with_reducible refine Kd.C_drew ?_))); (case side2 => exact HC0.out); rintro e w90 ⟨rfl, hb⟩; refine ⟨_, rfl, ?_⟩; have n0_ := Aside0.mk (below_step (by repeat (first | (with_reducible first | exact HB.out | apply below_alloc | apply pw_below_drewN | apply below_drew1) | exact HB.out)) hb); clear HB; have HB := n0_; clear n0_; (try clear hb); (try clear hb2); (try clear hk); (try clear hi)) | ((with_reducible refine gate_callee (f := 52) rfl ?_); refine goesL_ (some 75) rfl rfl Try.func52 (by kernel_rfl) rfl #[.slice A0 l0.length c0, .int .i64 t682] rfl (by (try simp only [List.map_toArray, List.map_cons, List.map_nil]); first | done | rfl | (simp only [List.length_drop, List.length_take]; rfl)) ?_; (with_reducible refine (extent_Index.calls k3 _ _ l0 t682 t684 true _ ?side1 ?side2 A52.out).mono ?_); (case side1 => repeat (first | exact (Kd.C_below HR0.out HB.out) | (with_reducible refine Kd.C_alloc ?_ _) | (with_reducible refine Kd.C_drewN ?_ _) | (with_reducible refine Kd.C_drew ?_))); (case side2 => exact HC0.out); rintro e w91 ⟨rfl, hb⟩; refine ⟨_, rfl, ?_⟩; have n0_ := Aside0.mk (below_step (by repeat (first | (with_reducible first | exact HB.out | apply below_alloc | apply pw_below_drewN | apply below_drew1) | exact HB.out)) hb); clear HB; have HB := n0_; clear n0_; (try clear hb); (try clear hb2); (try clear hk); (try clear hi)) | ((with_reducible refine gate_callee (f := 38) rfl ?_); refine goesL_ (some 80) rfl rfl Try.func38 (by kernel_rfl) rfl #[.slice A0 l0.length c0] rfl (by (try simp only [List.map_toArray, List.map_cons, List.map_nil]); first | done | rfl | (simp only [List.length_drop, List.length_take]; rfl)) ?_; (with_reducible refine (extent_Join.calls k3 _ _ l0 t686 _ ?side1 ?side2 A53.out).mono ?_); (case side1 => repeat (first | exact (Kd.C_below HR0.out HB.out) | (with_reducible refine Kd.C_alloc ?_ _) | (with_reducible refine Kd.C_drewN ?_ _) | (with_reducible refine Kd.C_drew ?_))); (case side2 => exact HC0.out); rintro e w92 ⟨v687, rfl, ho0, hb⟩; refine ⟨_, rfl, ?_⟩; have n0_ := Aside0.mk (Kd.R_lower ho0 (below_size (by repeat (first | (with_reducible first | exact HB.out | apply below_alloc | apply pw_below_drewN | apply below_drew1) | exact HB.out)))); have n1_ := Aside0.mk (below_step (by repeat (first | (with_reducible first | exact HB.out | apply below_alloc | apply pw_below_drewN | apply below_drew1) | exact HB.out)) hb); clear HB; have HO688 := n0_; have HB := n1_; clear n0_ n1_; (try clear hb); (try clear hb2); (try clear hk); (try clear hi); (try clear ho0); obtain ⟨Ao93, co93, eo93⟩ := Kd.R_slice HO688.out; subst eo93) | ((with_reducible refine gate_callee (f := 50) rfl ?_); refine goesL_ (some 82) rfl rfl Try.func50 (by kernel_rfl) rfl #[.slice Ao93 t686.length co93, .int .i64 x8_3] rfl (by (try simp only [List.map_toArray, List.map_cons, List.map_nil]); first | done | rfl | (simp only [List.length_drop, List.length_take]; rfl)) ?_; (with_reducible refine (extent_At.calls k3 _ _ t686 x8_3 t689 true _ ?side1 ?side2 A54.out).mono ?_); (case side1 => repeat (first | exact (Kd.R_reads' HO688.out).2.2 | (with_reducible refine Kd.C_alloc ?_ _) | (with_reducible refine Kd.C_drewN ?_ _) | (with_reducible refine Kd.C_drew ?_))); (case side2 => exact (Kd.R_reads' HO688.out).2.1); rintro e w94 ⟨rfl, hb⟩; refine ⟨_, rfl, ?_⟩; have n0_ := Aside0.mk (Kd.R_below (by (with_reducible repeat (first | apply Kd.R_alloc | apply Kd.R_drewN | apply Kd.R_drew)); exact HO688.out) hb); have n1_ := Aside0.mk (below_step (by repeat (first | (with_reducible first | exact HB.out | apply below_alloc | apply pw_below_drewN | apply below_drew1) | exact HB.out)) hb); clear HO688; clear HB; have HO688 := n0_; have HB := n1_; clear n0_ n1_; (try clear hb); (try clear hb2); (try clear hk); (try clear hi)) | (go_at_call 69; (with_reducible refine (extent_Contains.calls k3 _ _ l0 t682 false _ ?side1 ?side2 A65.out).mono ?_); (case side1 => repeat (first | exact (Kd.C_below HR0.out HB.out) | (with_reducible refine Kd.C_alloc ?_ _) | (with_reducible refine Kd.C_drewN ?_ _) | (with_reducible refine Kd.C_drew ?_))); (case side2 => exact HC0.out); rintro e w95 ⟨rfl, hb⟩; have n0_ := Aside0.mk (Kd.R_below (by (with_reducible repeat (first | apply Kd.R_alloc | apply Kd.R_drewN | apply Kd.R_drew)); exact HO688.out) hb); have n1_ := Aside0.mk (below_step (by repeat (first | (with_reducible first | exact HB.out | apply below_alloc | apply pw_below_drewN | apply below_drew1) | exact HB.out)) hb); clear HO688; clear HB; have HO688 := n0_; have HB := n1_; clear n0_ n1_; (try clear hb); (try clear hb2); (try clear hk); (try clear hi)))
                                go_ret
                                exact ⟨by first | rfl | (simp [errW_none, errW_some] <;> rfl) | (simp [*, errW_none, errW_some] <;> rfl), by repeat (first | (with_reducible first | exact HB.out | apply below_alloc | apply pw_below_drewN | apply below_drew1) | exact HB.out)⟩
                            · rw [if_neg c64] at H
                              have c64b0 : (t682 == t689) = false := beq_eq_false_iff_ne.mpr c64
                              have c64b1 : (t682 != t689) = true := bne_iff_ne.mpr c64
                              obtain rfl := Option.some.inj H
                              go_wp2_with (first | ((with_reducible refine gate_callee (f := 50) rfl ?_); refine goesL_ (some 69) rfl rfl Try.func50 (by kernel_rfl) rfl #[.slice A0 l0.length c0, .int .i64 x8_3] rfl (by (try simp only [List.map_toArray, List.map_cons, List.map_nil]); first | done | rfl | (simp only [List.length_drop, List.length_take]; rfl)) ?_; (with_reducible refine (extent_At.calls k3 _ _ l0 x8_3 t682 true _ ?side1 ?side2 A51.out).mono ?_); (case side1 => repeat (first | exact (Kd.C_below HR0.out HB.out) | (with_reducible refine Kd.C_alloc ?_ _) | (with_reducible refine Kd.C_drewN ?_ _) | (with_reducible refine Kd.C_drew ?_))); (case side2 => exact HC0.out); rintro e w96 ⟨rfl, hb⟩; refine ⟨_, rfl, ?_⟩; have n0_ := Aside0.mk (below_step (by repeat (first | (with_reducible first | exact HB.out | apply below_alloc | apply pw_below_drewN | apply below_drew1) | exact HB.out)) hb); clear HB; have HB := n0_; clear n0_; (try clear hb); (try clear hb2); (try clear hk); (try clear hi)) | ((with_reducible refine gate_callee (f := 52) rfl ?_); refine goesL_ (some 75) rfl rfl Try.func52 (by kernel_rfl) rfl #[.slice A0 l0.length c0, .int .i64 t682] rfl (by (try simp only [List.map_toArray, List.map_cons, List.map_nil]); first | done | rfl | (simp only [List.length_drop, List.length_take]; rfl)) ?_; (with_reducible refine (extent_Index.calls k3 _ _ l0 t682 t684 true _ ?side1 ?side2 A52.out).mono ?_); (case side1 => repeat (first | exact (Kd.C_below HR0.out HB.out) | (with_reducible refine Kd.C_alloc ?_ _) | (with_reducible refine Kd.C_drewN ?_ _) | (with_reducible refine Kd.C_drew ?_))); (case side2 => exact HC0.out); rintro e w97 ⟨rfl, hb⟩; refine ⟨_, rfl, ?_⟩; have n0_ := Aside0.mk (below_step (by repeat (first | (with_reducible first | exact HB.out | apply below_alloc | apply pw_below_drewN | apply below_drew1) | exact HB.out)) hb); clear HB; have HB := n0_; clear n0_; (try clear hb); (try clear hb2); (try clear hk); (try clear hi)) | ((with_reducible refine gate_callee (f := 38) rfl ?_); refine goesL_ (some 80) rfl rfl Try.func38 (by kernel_rfl) rfl #[.slice A0 l0.length c0] rfl (by (try simp only [List.map_toArray, List.map_cons, List.map_nil]); first | done | rfl | (simp only [List.length_drop, List.length_take]; rfl)) ?_; (with_reducible refine (extent_Join.calls k3 _ _ l0 t686 _ ?side1 ?side2 A53.out).mono ?_); (case side1 => repeat (first | exact (Kd.C_below HR0.out HB.out) | (with_reducible refine Kd.C_alloc ?_ _) | (with_reducible refine Kd.C_drewN ?_ _) | (with_reducible refine Kd.C_drew ?_))); (case side2 => exact HC0.out); rintro e w98 ⟨v687, rfl, ho0, hb⟩; refine ⟨_, rfl, ?_⟩; have n0_ := Aside0.mk (Kd.R_lower ho0 (below_size (by repeat (first | (with_reducible first | exact HB.out | apply below_alloc | apply pw_below_drewN | apply below_drew1) | exact HB.out)))); have n1_ := Aside0.mk (below_step (by repeat (first | (with_reducible first | exact HB.out | apply below_alloc | apply pw_below_drewN | apply below_drew1) | exact HB.out)) hb); clear HB; have HO688 := n0_; have HB := n1_; clear n0_ n1_; (try clear hb); (try clear hb2); (try clear hk); (try clear hi); (try clear ho0); obtain ⟨Ao99, co99, eo99⟩ := Kd.R_slice HO688.out; subst eo99) | ((with_reducible refine gate_callee (f := 50) rfl ?_); refine goesL_ (some 82) rfl rfl Try.func50 (by kernel_rfl) rfl #[.slice Ao99 t686.length co99, .int .i64 x8_3] rfl (by (try simp only [List.map_toArray, List.map_cons, List.map_nil]); first | done | rfl | (simp only [List.length_drop, List.length_take]; rfl)) ?_; (with_reducible refine (extent_At.calls k3 _ _ t686 x8_3 t689 true _ ?side1 ?side2 A54.out).mono ?_); (case side1 => repeat (first | exact (Kd.R_reads' HO688.out).2.2 | (with_reducible refine Kd.C_alloc ?_ _) | (with_reducible refine Kd.C_drewN ?_ _) | (with_reducible refine Kd.C_drew ?_))); (case side2 => exact (Kd.R_reads' HO688.out).2.1); rintro e w100 ⟨rfl, hb⟩; refine ⟨_, rfl, ?_⟩; have n0_ := Aside0.mk (Kd.R_below (by (with_reducible repeat (first | apply Kd.R_alloc | apply Kd.R_drewN | apply Kd.R_drew)); exact HO688.out) hb); have n1_ := Aside0.mk (below_step (by repeat (first | (with_reducible first | exact HB.out | apply below_alloc | apply pw_below_drewN | apply below_drew1) | exact HB.out)) hb); clear HO688; clear HB; have HO688 := n0_; have HB := n1_; clear n0_ n1_; (try clear hb); (try clear hb2); (try clear hk); (try clear hi)))
                              go_ret
                              exact ⟨by first | rfl | (simp [errW_none, errW_some] <;> rfl) | (simp [*, errW_none, errW_some] <;> rfl), by repeat (first | (with_reducible first | exact HB.out | apply below_alloc | apply pw_below_drewN | apply below_drew1) | exact HB.out)⟩
                        · replace c57 := Bool.eq_false_iff.mpr c57
                          subst c57
                          have H1 : (some false) = some r := by rw [if_neg (show ¬ (false = true) by decide)] at H; exact H
                          clear H
                          have H := H1
                          clear H1
                          obtain rfl := Option.some.inj H
                          go_wp2_with (first | ((with_reducible refine gate_callee (f := 50) rfl ?_); refine goesL_ (some 69) rfl rfl Try.func50 (by kernel_rfl) rfl #[.slice A0 l0.length c0, .int .i64 x8_3] rfl (by (try simp only [List.map_toArray, List.map_cons, List.map_nil]); first | done | rfl | (simp only [List.length_drop, List.length_take]; rfl)) ?_; (with_reducible refine (extent_At.calls k3 _ _ l0 x8_3 t682 true _ ?side1 ?side2 A51.out).mono ?_); (case side1 => repeat (first | exact (Kd.C_below HR0.out HB.out) | (with_reducible refine Kd.C_alloc ?_ _) | (with_reducible refine Kd.C_drewN ?_ _) | (with_reducible refine Kd.C_drew ?_))); (case side2 => exact HC0.out); rintro e w101 ⟨rfl, hb⟩; refine ⟨_, rfl, ?_⟩; have n0_ := Aside0.mk (below_step (by repeat (first | (with_reducible first | exact HB.out | apply below_alloc | apply pw_below_drewN | apply below_drew1) | exact HB.out)) hb); clear HB; have HB := n0_; clear n0_; (try clear hb); (try clear hb2); (try clear hk); (try clear hi)) | ((with_reducible refine gate_callee (f := 52) rfl ?_); refine goesL_ (some 75) rfl rfl Try.func52 (by kernel_rfl) rfl #[.slice A0 l0.length c0, .int .i64 t682] rfl (by (try simp only [List.map_toArray, List.map_cons, List.map_nil]); first | done | rfl | (simp only [List.length_drop, List.length_take]; rfl)) ?_; (with_reducible refine (extent_Index.calls k3 _ _ l0 t682 t684 true _ ?side1 ?side2 A52.out).mono ?_); (case side1 => repeat (first | exact (Kd.C_below HR0.out HB.out) | (with_reducible refine Kd.C_alloc ?_ _) | (with_reducible refine Kd.C_drewN ?_ _) | (with_reducible refine Kd.C_drew ?_))); (case side2 => exact HC0.out); rintro e w102 ⟨rfl, hb⟩; refine ⟨_, rfl, ?_⟩; have n0_ := Aside0.mk (below_step (by repeat (first | (with_reducible first | exact HB.out | apply below_alloc | apply pw_below_drewN | apply below_drew1) | exact HB.out)) hb); clear HB; have HB := n0_; clear n0_; (try clear hb); (try clear hb2); (try clear hk); (try clear hi)) | ((with_reducible refine gate_callee (f := 38) rfl ?_); refine goesL_ (some 80) rfl rfl Try.func38 (by kernel_rfl) rfl #[.slice A0 l0.length c0] rfl (by (try simp only [List.map_toArray, List.map_cons, List.map_nil]); first | done | rfl | (simp only [List.length_drop, List.length_take]; rfl)) ?_; (with_reducible refine (extent_Join.calls k3 _ _ l0 t686 _ ?side1 ?side2 A53.out).mono ?_); (case side1 => repeat (first | exact (Kd.C_below HR0.out HB.out) | (with_reducible refine Kd.C_alloc ?_ _) | (with_reducible refine Kd.C_drewN ?_ _) | (with_reducible refine Kd.C_drew ?_))); (case side2 => exact HC0.out); rintro e w103 ⟨v687, rfl, ho0, hb⟩; refine ⟨_, rfl, ?_⟩; have n0_ := Aside0.mk (Kd.R_lower ho0 (below_size (by repeat (first | (with_reducible first | exact HB.out | apply below_alloc | apply pw_below_drewN | apply below_drew1) | exact HB.out)))); have n1_ := Aside0.mk (below_step (by repeat (first | (with_reducible first | exact HB.out | apply below_alloc | apply pw_below_drewN | apply below_drew1) | exact HB.out)) hb); clear HB; have HO688 := n0_; have HB := n1_; clear n0_ n1_; (try clear hb); (try clear hb2); (try clear hk); (try clear hi); (try clear ho0); obtain ⟨Ao104, co104, eo104⟩ := Kd.R_slice HO688.out; subst eo104) | ((with_reducible refine gate_callee (f := 50) rfl ?_); refine goesL_ (some 82) rfl rfl Try.func50 (by kernel_rfl) rfl #[.slice Ao104 t686.length co104, .int .i64 x8_3] rfl (by (try simp only [List.map_toArray, List.map_cons, List.map_nil]); first | done | rfl | (simp only [List.length_drop, List.length_take]; rfl)) ?_; (with_reducible refine (extent_At.calls k3 _ _ t686 x8_3 t689 false _ ?side1 ?side2 A54.out).mono ?_); (case side1 => repeat (first | exact (Kd.R_reads' HO688.out).2.2 | (with_reducible refine Kd.C_alloc ?_ _) | (with_reducible refine Kd.C_drewN ?_ _) | (with_reducible refine Kd.C_drew ?_))); (case side2 => exact (Kd.R_reads' HO688.out).2.1); rintro e w105 ⟨rfl, hb⟩; refine ⟨_, rfl, ?_⟩; have n0_ := Aside0.mk (Kd.R_below (by (with_reducible repeat (first | apply Kd.R_alloc | apply Kd.R_drewN | apply Kd.R_drew)); exact HO688.out) hb); have n1_ := Aside0.mk (below_step (by repeat (first | (with_reducible first | exact HB.out | apply below_alloc | apply pw_below_drewN | apply below_drew1) | exact HB.out)) hb); clear HO688; clear HB; have HO688 := n0_; have HB := n1_; clear n0_ n1_; (try clear hb); (try clear hb2); (try clear hk); (try clear hi)))
                          go_ret
                          exact ⟨by first | rfl | (simp [errW_none, errW_some] <;> rfl) | (simp [*, errW_none, errW_some] <;> rfl), by repeat (first | (with_reducible first | exact HB.out | apply below_alloc | apply pw_below_drewN | apply below_drew1) | exact HB.out)⟩
                      · replace c56 := Bool.eq_false_iff.mpr c56
                        subst c56
                        have H1 : (some false) = some r := by rw [if_neg (show ¬ (false = true) by decide)] at H; exact H
                        clear H
                        have H := H1
                        clear H1
                        obtain rfl := Option.some.inj H
                        go_wp2_with (first | ((with_reducible refine gate_callee (f := 50) rfl ?_); refine goesL_ (some 69) rfl rfl Try.func50 (by kernel_rfl) rfl #[.slice A0 l0.length c0, .int .i64 x8_3] rfl (by (try simp only [List.map_toArray, List.map_cons, List.map_nil]); first | done | rfl | (simp only [List.length_drop, List.length_take]; rfl)) ?_; (with_reducible refine (extent_At.calls k3 _ _ l0 x8_3 t682 true _ ?side1 ?side2 A51.out).mono ?_); (case side1 => repeat (first | exact (Kd.C_below HR0.out HB.out) | (with_reducible refine Kd.C_alloc ?_ _) | (with_reducible refine Kd.C_drewN ?_ _) | (with_reducible refine Kd.C_drew ?_))); (case side2 => exact HC0.out); rintro e w106 ⟨rfl, hb⟩; refine ⟨_, rfl, ?_⟩; have n0_ := Aside0.mk (below_step (by repeat (first | (with_reducible first | exact HB.out | apply below_alloc | apply pw_below_drewN | apply below_drew1) | exact HB.out)) hb); clear HB; have HB := n0_; clear n0_; (try clear hb); (try clear hb2); (try clear hk); (try clear hi)) | ((with_reducible refine gate_callee (f := 52) rfl ?_); refine goesL_ (some 75) rfl rfl Try.func52 (by kernel_rfl) rfl #[.slice A0 l0.length c0, .int .i64 t682] rfl (by (try simp only [List.map_toArray, List.map_cons, List.map_nil]); first | done | rfl | (simp only [List.length_drop, List.length_take]; rfl)) ?_; (with_reducible refine (extent_Index.calls k3 _ _ l0 t682 t684 false _ ?side1 ?side2 A52.out).mono ?_); (case side1 => repeat (first | exact (Kd.C_below HR0.out HB.out) | (with_reducible refine Kd.C_alloc ?_ _) | (with_reducible refine Kd.C_drewN ?_ _) | (with_reducible refine Kd.C_drew ?_))); (case side2 => exact HC0.out); rintro e w107 ⟨rfl, hb⟩; refine ⟨_, rfl, ?_⟩; have n0_ := Aside0.mk (below_step (by repeat (first | (with_reducible first | exact HB.out | apply below_alloc | apply pw_below_drewN | apply below_drew1) | exact HB.out)) hb); clear HB; have HB := n0_; clear n0_; (try clear hb); (try clear hb2); (try clear hk); (try clear hi)) | ((with_reducible refine gate_callee (f := 38) rfl ?_); refine goesL_ (some 80) rfl rfl Try.func38 (by kernel_rfl) rfl #[.slice A0 l0.length c0] rfl (by (try simp only [List.map_toArray, List.map_cons, List.map_nil]); first | done | rfl | (simp only [List.length_drop, List.length_take]; rfl)) ?_; (with_reducible refine (extent_Join.calls k3 _ _ l0 t686 _ ?side1 ?side2 A53.out).mono ?_); (case side1 => repeat (first | exact (Kd.C_below HR0.out HB.out) | (with_reducible refine Kd.C_alloc ?_ _) | (with_reducible refine Kd.C_drewN ?_ _) | (with_reducible refine Kd.C_drew ?_))); (case side2 => exact HC0.out); rintro e w108 ⟨v687, rfl, ho0, hb⟩; refine ⟨_, rfl, ?_⟩; have n0_ := Aside0.mk (Kd.R_lower ho0 (below_size (by repeat (first | (with_reducible first | exact HB.out | apply below_alloc | apply pw_below_drewN | apply below_drew1) | exact HB.out)))); have n1_ := Aside0.mk (below_step (by repeat (first | (with_reducible first | exact HB.out | apply below_alloc | apply pw_below_drewN | apply below_drew1) | exact HB.out)) hb); clear HB; have HO688 := n0_; have HB := n1_; clear n0_ n1_; (try clear hb); (try clear hb2); (try clear hk); (try clear hi); (try clear ho0); obtain ⟨Ao109, co109, eo109⟩ := Kd.R_slice HO688.out; subst eo109) | ((with_reducible refine gate_callee (f := 50) rfl ?_); refine goesL_ (some 82) rfl rfl Try.func50 (by kernel_rfl) rfl #[.slice Ao109 t686.length co109, .int .i64 x8_3] rfl (by (try simp only [List.map_toArray, List.map_cons, List.map_nil]); first | done | rfl | (simp only [List.length_drop, List.length_take]; rfl)) ?_; (with_reducible refine (extent_At.calls k3 _ _ t686 x8_3 t689 t690 _ ?side1 ?side2 A54.out).mono ?_); (case side1 => repeat (first | exact (Kd.R_reads' HO688.out).2.2 | (with_reducible refine Kd.C_alloc ?_ _) | (with_reducible refine Kd.C_drewN ?_ _) | (with_reducible refine Kd.C_drew ?_))); (case side2 => exact (Kd.R_reads' HO688.out).2.1); rintro e w110 ⟨rfl, hb⟩; refine ⟨_, rfl, ?_⟩; have n0_ := Aside0.mk (Kd.R_below (by (with_reducible repeat (first | apply Kd.R_alloc | apply Kd.R_drewN | apply Kd.R_drew)); exact HO688.out) hb); have n1_ := Aside0.mk (below_step (by repeat (first | (with_reducible first | exact HB.out | apply below_alloc | apply pw_below_drewN | apply below_drew1) | exact HB.out)) hb); clear HO688; clear HB; have HO688 := n0_; have HB := n1_; clear n0_ n1_; (try clear hb); (try clear hb2); (try clear hk); (try clear hi)))
                        go_ret
                        exact ⟨by first | rfl | (simp [errW_none, errW_some] <;> rfl) | (simp [*, errW_none, errW_some] <;> rfl), by repeat (first | (with_reducible first | exact HB.out | apply below_alloc | apply pw_below_drewN | apply below_drew1) | exact HB.out)⟩
                    · replace c55 := Bool.eq_false_iff.mpr c55
                      subst c55
                      have H1 : (some false) = some r := by rw [if_neg (show ¬ (false = true) by decide)] at H; exact H
                      clear H
                      have H := H1
                      clear H1
                      obtain rfl := Option.some.inj H
                      go_wp2_with (first | ((with_reducible refine gate_callee (f := 50) rfl ?_); refine goesL_ (some 69) rfl rfl Try.func50 (by kernel_rfl) rfl #[.slice A0 l0.length c0, .int .i64 x8_3] rfl (by (try simp only [List.map_toArray, List.map_cons, List.map_nil]); first | done | rfl | (simp only [List.length_drop, List.length_take]; rfl)) ?_; (with_reducible refine (extent_At.calls k3 _ _ l0 x8_3 t682 false _ ?side1 ?side2 A51.out).mono ?_); (case side1 => repeat (first | exact (Kd.C_below HR0.out HB.out) | (with_reducible refine Kd.C_alloc ?_ _) | (with_reducible refine Kd.C_drewN ?_ _) | (with_reducible refine Kd.C_drew ?_))); (case side2 => exact HC0.out); rintro e w111 ⟨rfl, hb⟩; refine ⟨_, rfl, ?_⟩; have n0_ := Aside0.mk (below_step (by repeat (first | (with_reducible first | exact HB.out | apply below_alloc | apply pw_below_drewN | apply below_drew1) | exact HB.out)) hb); clear HB; have HB := n0_; clear n0_; (try clear hb); (try clear hb2); (try clear hk); (try clear hi)) | ((with_reducible refine gate_callee (f := 52) rfl ?_); refine goesL_ (some 75) rfl rfl Try.func52 (by kernel_rfl) rfl #[.slice A0 l0.length c0, .int .i64 t682] rfl (by (try simp only [List.map_toArray, List.map_cons, List.map_nil]); first | done | rfl | (simp only [List.length_drop, List.length_take]; rfl)) ?_; (with_reducible refine (extent_Index.calls k3 _ _ l0 t682 t684 t685 _ ?side1 ?side2 A52.out).mono ?_); (case side1 => repeat (first | exact (Kd.C_below HR0.out HB.out) | (with_reducible refine Kd.C_alloc ?_ _) | (with_reducible refine Kd.C_drewN ?_ _) | (with_reducible refine Kd.C_drew ?_))); (case side2 => exact HC0.out); rintro e w112 ⟨rfl, hb⟩; refine ⟨_, rfl, ?_⟩; have n0_ := Aside0.mk (below_step (by repeat (first | (with_reducible first | exact HB.out | apply below_alloc | apply pw_below_drewN | apply below_drew1) | exact HB.out)) hb); clear HB; have HB := n0_; clear n0_; (try clear hb); (try clear hb2); (try clear hk); (try clear hi)) | ((with_reducible refine gate_callee (f := 38) rfl ?_); refine goesL_ (some 80) rfl rfl Try.func38 (by kernel_rfl) rfl #[.slice A0 l0.length c0] rfl (by (try simp only [List.map_toArray, List.map_cons, List.map_nil]); first | done | rfl | (simp only [List.length_drop, List.length_take]; rfl)) ?_; (with_reducible refine (extent_Join.calls k3 _ _ l0 t686 _ ?side1 ?side2 A53.out).mono ?_); (case side1 => repeat (first | exact (Kd.C_below HR0.out HB.out) | (with_reducible refine Kd.C_alloc ?_ _) | (with_reducible refine Kd.C_drewN ?_ _) | (with_reducible refine Kd.C_drew ?_))); (case side2 => exact HC0.out); rintro e w113 ⟨v687, rfl, ho0, hb⟩; refine ⟨_, rfl, ?_⟩; have n0_ := Aside0.mk (Kd.R_lower ho0 (below_size (by repeat (first | (with_reducible first | exact HB.out | apply below_alloc | apply pw_below_drewN | apply below_drew1) | exact HB.out)))); have n1_ := Aside0.mk (below_step (by repeat (first | (with_reducible first | exact HB.out | apply below_alloc | apply pw_below_drewN | apply below_drew1) | exact HB.out)) hb); clear HB; have HO688 := n0_; have HB := n1_; clear n0_ n1_; (try clear hb); (try clear hb2); (try clear hk); (try clear hi); (try clear ho0); obtain ⟨Ao114, co114, eo114⟩ := Kd.R_slice HO688.out; subst eo114) | ((with_reducible refine gate_callee (f := 50) rfl ?_); refine goesL_ (some 82) rfl rfl Try.func50 (by kernel_rfl) rfl #[.slice Ao114 t686.length co114, .int .i64 x8_3] rfl (by (try simp only [List.map_toArray, List.map_cons, List.map_nil]); first | done | rfl | (simp only [List.length_drop, List.length_take]; rfl)) ?_; (with_reducible refine (extent_At.calls k3 _ _ t686 x8_3 t689 t690 _ ?side1 ?side2 A54.out).mono ?_); (case side1 => repeat (first | exact (Kd.R_reads' HO688.out).2.2 | (with_reducible refine Kd.C_alloc ?_ _) | (with_reducible refine Kd.C_drewN ?_ _) | (with_reducible refine Kd.C_drew ?_))); (case side2 => exact (Kd.R_reads' HO688.out).2.1); rintro e w115 ⟨rfl, hb⟩; refine ⟨_, rfl, ?_⟩; have n0_ := Aside0.mk (Kd.R_below (by (with_reducible repeat (first | apply Kd.R_alloc | apply Kd.R_drewN | apply Kd.R_drew)); exact HO688.out) hb); have n1_ := Aside0.mk (below_step (by repeat (first | (with_reducible first | exact HB.out | apply below_alloc | apply pw_below_drewN | apply below_drew1) | exact HB.out)) hb); clear HO688; clear HB; have HO688 := n0_; have HB := n1_; clear n0_ n1_; (try clear hb); (try clear hb2); (try clear hk); (try clear hi)))
                      go_ret
                      exact ⟨by first | rfl | (simp [errW_none, errW_some] <;> rfl) | (simp [*, errW_none, errW_some] <;> rfl), by repeat (first | (with_reducible first | exact HB.out | apply below_alloc | apply pw_below_drewN | apply below_drew1) | exact HB.out)⟩
                  · rw [if_neg c50] at H
                    have c50b0 : decide (x8_3 < t654) = false := decide_eq_false c50
                    clear c50
                    replace H := Option.bind_eq_some_iff.mp H
                    obtain ⟨⟨t680, t681⟩, A1160, H⟩ := H
                    replace H : (some (!t681)) = some r := H
                    have A116 := Aside0.mk A1160
                    clear A1160
                    obtain rfl := Option.some.inj H
                    go_wp2_with (first | ((with_reducible refine gate_callee (f := 50) rfl ?_); refine goesL_ (some 123) rfl rfl Try.func50 (by kernel_rfl) rfl #[.slice A0 l0.length c0, .int .i64 t654] rfl (by (try simp only [List.map_toArray, List.map_cons, List.map_nil]); first | done | rfl | (simp only [List.length_drop, List.length_take]; rfl)) ?_; (with_reducible refine (extent_At.calls k3 _ _ l0 t654 t680 t681 _ ?side1 ?side2 A116.out).mono ?_); (case side1 => repeat (first | exact (Kd.C_below HR0.out HB.out) | (with_reducible refine Kd.C_alloc ?_ _) | (with_reducible refine Kd.C_drewN ?_ _) | (with_reducible refine Kd.C_drew ?_))); (case side2 => exact HC0.out); rintro e w117 ⟨rfl, hb⟩; refine ⟨_, rfl, ?_⟩; have n0_ := Aside0.mk (below_step (by repeat (first | (with_reducible first | exact HB.out | apply below_alloc | apply pw_below_drewN | apply below_drew1) | exact HB.out)) hb); clear HB; have HB := n0_; clear n0_; (try clear hb); (try clear hb2); (try clear hk); (try clear hi)))
                    go_ret
                    exact ⟨by first | rfl | (simp [errW_none, errW_some] <;> rfl) | (simp [*, errW_none, errW_some] <;> rfl), by repeat (first | (with_reducible first | exact HB.out | apply below_alloc | apply pw_below_drewN | apply below_drew1) | exact HB.out)⟩

end Go.Proofs.Ytegefemkmdlmaaa.P
