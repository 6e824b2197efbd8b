import Derived.Test.YtegefemkmdlmaaaF0
import Derived.Test.YtegefemkmdlmaaaGa
import Derived.Test.YtegefemkmdlmaaaF47
import Derived.Test.YtegefemkmdlmaaaF102
import Derived.Test.YtegefemkmdlmaaaF103
namespace Go.Proofs.Ytegefemkmdlmaaa.P
open Go.RowKit Go.Proofs.YtegefemkmdlmaaaW.PrintWords Go.Proofs.YtegefemkmdlmaaaW.PrintLast Go.Proofs.YtegefemkmdlmaaaW.PrintMore
attribute [local go_sem] max2_int min2_int max_two min_two max_three min_three max_four min_four
set_option linter.unusedVariables false
set_option linter.unusedSimpArgs false
def dasdref07_EncodeHead.j0 : Nat → ByteArray → Int → Bool → Option (ByteArray)
 | 0, _, _, _ => none
 | k + 1, x0, x1, x12 => if x12 = true then (some (⟨#[]⟩ : ByteArray)) else ((dasdref01_Text.f k x0).bind fun t419 => ((dasdref01_Number.f k (IntKind.u64.wrap (x1))).bind fun t420 => (if t419.size + t420.size ≤ 9223372036854775807 then ((dasdref01_Padded.f k (t419 ++ t420) 1024).bind fun t421 => (some t421)) else (none))))
def dasdref07_EncodeHead.f (k : Nat) (a0 : ByteArray) (a1 : Int) : Option (ByteArray) := (dasdref07_ValidName.f k a0).bind fun t417 => (if t417 = true then ((dasdref07_valid.f a1).bind fun t418 => (dasdref07_EncodeHead.j0 k a0 a1 (!t418))) else (dasdref07_EncodeHead.j0 k a0 a1 true))
theorem dasdref07_EncodeHead.mono_l : ∀ k, (∀ y0 y1 y2, LeO (dasdref07_EncodeHead.j0 k y0 y1 y2) (dasdref07_EncodeHead.j0 (k + 1) y0 y1 y2))
 | 0 => fun _ _ _ r h => by simp [dasdref07_EncodeHead.j0] at h
 | k + 1 => by
  have ih0 := dasdref07_EncodeHead.mono_l k
  ·intro y0 y1 y2
   unfold dasdref07_EncodeHead.j0
   repeat' first
   | (with_reducible exact ih0 _ _ _)
   | (with_reducible exact dasdref01_Number.mono _ _)
   | (with_reducible exact dasdref01_Padded.mono _ _ _)
   | (with_reducible exact dasdref01_Text.mono _ _)
   | (with_reducible exact dasdref07_ValidName.mono _ _)
   | (with_reducible exact LeO.refl _)
   | (with_reducible exact LeO.none _)
   | (with_reducible refine LeO.ite ?_ ?_)
   | (with_reducible refine LeO.bind ?_ (fun _ => ?_))
   | exact ih0 _ _ _
   | exact dasdref01_Number.mono _ _
   | exact dasdref01_Padded.mono _ _ _
   | exact dasdref01_Text.mono _ _
   | exact dasdref07_ValidName.mono _ _
   | exact LeO.none _
   | refine LeO.ite ?_ ?_
   | refine LeO.bind ?_ (fun _ => ?_)
theorem dasdref07_EncodeHead.mono : ∀ a0 a1 k, LeO (dasdref07_EncodeHead.f k a0 a1) (dasdref07_EncodeHead.f (k + 1) a0 a1) := by
 intro a0 a1 k
 have ih0 := dasdref07_EncodeHead.mono_l k
 unfold dasdref07_EncodeHead.f
 repeat' first
   | (with_reducible exact ih0 _ _ _)
   | (with_reducible exact dasdref01_Number.mono _ _)
   | (with_reducible exact dasdref01_Padded.mono _ _ _)
   | (with_reducible exact dasdref01_Text.mono _ _)
   | (with_reducible exact dasdref07_ValidName.mono _ _)
   | (with_reducible exact LeO.refl _)
   | (with_reducible exact LeO.none _)
   | (with_reducible refine LeO.ite ?_ ?_)
   | (with_reducible refine LeO.bind ?_ (fun _ => ?_))
   | exact ih0 _ _ _
   | exact dasdref01_Number.mono _ _
   | exact dasdref01_Padded.mono _ _ _
   | exact dasdref01_Text.mono _ _
   | exact dasdref07_ValidName.mono _ _
   | exact LeO.none _
   | refine LeO.ite ?_ ?_
   | refine LeO.bind ?_ (fun _ => ?_)
set_option maxHeartbeats 8000000 in
set_option maxRecDepth 100000 in
theorem dasdref07_EncodeHead.calls (k : Nat) (a0 : ByteArray) (a1 : Int) (r : ByteArray) (w : World) (h : dasdref07_EncodeHead.f k a0 a1 = some r) :
  Calls Try.prog 49 #[.string a0, .int .i64 a1] w fun e w' => e = .returned (.string r) ∧ Below w.heap.size w w' := by
 have HB := Aside0.mk (Below.refl w.heap.size w)
 have H : ((dasdref07_ValidName.f k a0).bind fun t417 => (if t417 = true then ((dasdref07_valid.f a1).bind fun t418 => (dasdref07_EncodeHead.j0 k a0 a1 (!t418))) else (dasdref07_EncodeHead.j0 k a0 a1 true))) = some r := h
 clear h
 have HC3 := Aside0.mk H
 clear H
 go_enter Try.func49, Try.ntmps49
 go_upto_region 1 with (fail)
 go_cut [12] (fun v12 wc => ∃ (kq : Nat) (x12_2 : Bool), v12 = .bool x12_2 ∧ Aside0 (dasdref07_EncodeHead.j0 kq a0 a1 x12_2 = some r) ∧ Aside0 (kq ≤ k) ∧ Aside0 (Below w.heap.size w wc))
 case first =>
  have H := HC3.out
  clear HC3
  replace H := Option.bind_eq_some_iff.mp H
  obtain ⟨t417, A40, H⟩ := H
  replace H : (if t417 = true then ((dasdref07_valid.f a1).bind fun t418 => (dasdref07_EncodeHead.j0 k a0 a1 (!t418))) else (dasdref07_EncodeHead.j0 k a0 a1 true)) = some r := H
  have A4 := Aside0.mk A40
  clear A40
  by_cases c5 : t417 = true
  ·subst c5
   have H1 : ((dasdref07_valid.f a1).bind fun t418 => (dasdref07_EncodeHead.j0 k a0 a1 (!t418))) = some r := by rw [if_pos rfl] at H; exact H
   clear H
   have H := H1
   clear H1
   replace H := Option.bind_eq_some_iff.mp H
   obtain ⟨t418, A60, H⟩ := H
   replace H : (dasdref07_EncodeHead.j0 k a0 a1 (!t418)) = some r := H
   have A6 := Aside0.mk A60
   clear A60
   have H' := Aside0.mk H
   clear H
   go_wp2_with (first | ((with_reducible refine gate_callee (f := 47) rfl ?_); refine goesL_ (some 6) rfl rfl Try.func47 (by kernel_rfl) rfl #[.string a0] rfl (by (try simp only [List.map_toArray, List.map_cons, List.map_nil]); first | done | rfl | (simp only [List.length_drop, List.length_take]; rfl)) ?_; (with_reducible refine (dasdref07_ValidName.calls k a0 true _ A4.out).mono ?_); rintro e w' ⟨rfl, ⟨nd, rfl⟩⟩; refine ⟨_, rfl, ?_⟩) | (go_at_call 102; (with_reducible refine (dasdref07_valid.calls a1 t418 _ A6.out).mono ?_); rintro e w' ⟨rfl, ⟨nd, rfl⟩⟩))
   go_meet
   case rel => exact ⟨_, (!t418), (by first | rfl | (simp; done) | (simp [*]; done)), H', ⟨by first | omega | exact Nat.le_refl _⟩, ⟨by repeat (first | (with_reducible first | exact HB.out | apply below_alloc | apply pw_below_drewN | apply below_drew1) | exact HB.out)⟩⟩
  ·replace c5 := Bool.eq_false_iff.mpr c5
   subst c5
   have H1 : (dasdref07_EncodeHead.j0 k a0 a1 true) = some r := by rw [if_neg (show ¬ (false = true) by decide)] at H; exact H
   clear H
   have H := H1
   clear H1
   have H' := Aside0.mk H
   clear H
   go_wp2_with (first | ((with_reducible refine gate_callee (f := 47) rfl ?_); refine goesL_ (some 6) rfl rfl Try.func47 (by kernel_rfl) rfl #[.string a0] rfl (by (try simp only [List.map_toArray, List.map_cons, List.map_nil]); first | done | rfl | (simp only [List.length_drop, List.length_take]; rfl)) ?_; (with_reducible refine (dasdref07_ValidName.calls k a0 false _ A4.out).mono ?_); rintro e w' ⟨rfl, ⟨nd, rfl⟩⟩; refine ⟨_, rfl, ?_⟩))
   go_meet
   case rel => exact ⟨_, (true), (by first | rfl | (simp; done) | (simp [*]; done)), H', ⟨by first | omega | exact Nat.le_refl _⟩, ⟨by repeat (first | (with_reducible first | exact HB.out | apply below_alloc | apply pw_below_drewN | apply below_drew1) | exact HB.out)⟩⟩
 case rest =>
  clear HC3
  try clear p2
  try clear c4
  try clear c5
  obtain ⟨kq, x12_2, rfl, HA, HJ2, HB⟩ := hcut
  cases kq with
  | zero => exact absurd HA.out (by simp [dasdref07_EncodeHead.j0])
  | succ kj2 =>
   have H := HA.out
   clear HA
   simp only [dasdref07_EncodeHead.j0] at H
   by_cases c7 : x12_2 = true
   ·subst c7
    have H1 : (some (⟨#[]⟩ : ByteArray)) = some r := by rw [if_pos rfl] at H; exact H
    clear H
    have H := H1
    clear H1
    obtain rfl := Option.some.inj H
    go_wp2
    go_ret
    exact ⟨by first | rfl | (simp [errW_none, errW_some] <;> rfl) | (simp [*, errW_none, errW_some] <;> rfl), by repeat (first | (with_reducible first | exact HB.out | apply below_alloc | apply pw_below_drewN | apply below_drew1) | exact HB.out)⟩
   ·replace c7 := Bool.eq_false_iff.mpr c7
    subst c7
    have H1 : ((dasdref01_Text.f kj2 a0).bind fun t419 => ((dasdref01_Number.f kj2 (IntKind.u64.wrap (a1))).bind fun t420 => (if t419.size + t420.size ≤ 9223372036854775807 then ((dasdref01_Padded.f kj2 (t419 ++ t420) 1024).bind fun t421 => (some t421)) else (none)))) = some r := by rw [if_neg (show ¬ (false = true) by decide)] at H; exact H
    clear H
    have H := H1
    clear H1
    replace H := Option.bind_eq_some_iff.mp H
    obtain ⟨t419, A80, H⟩ := H
    replace H : ((dasdref01_Number.f kj2 (IntKind.u64.wrap (a1))).bind fun t420 => (if t419.size + t420.size ≤ 9223372036854775807 then ((dasdref01_Padded.f kj2 (t419 ++ t420) 1024).bind fun t421 => (some t421)) else (none))) = some r := H
    have A8 := Aside0.mk A80
    clear A80
    replace H := Option.bind_eq_some_iff.mp H
    obtain ⟨t420, A90, H⟩ := H
    replace H : (if t419.size + t420.size ≤ 9223372036854775807 then ((dasdref01_Padded.f kj2 (t419 ++ t420) 1024).bind fun t421 => (some t421)) else (none)) = some r := H
    have A9 := Aside0.mk A90
    clear A90
    by_cases c10 : t419.size + t420.size ≤ 9223372036854775807
    ·rw [if_pos c10] at H
     have c10b0 := eq_true c10
     have c10b1 : decide (t419.size + t420.size ≤ 9223372036854775807) = true := decide_eq_true c10
     try have c10b2 : (9223372036854775807 < t419.size + t420.size) = False := eq_false (Nat.not_lt.2 c10)
     replace H := Option.bind_eq_some_iff.mp H
     obtain ⟨t421, A110, H⟩ := H
     replace H : (some t421) = some r := H
     have A11 := Aside0.mk A110
     clear A110
     obtain rfl := Option.some.inj H
     go_wp2_with (first | ((with_reducible refine gate_callee (f := 33) rfl ?_); refine goesL_ (some 14) rfl rfl Try.func33 (by kernel_rfl) rfl #[.string a0] rfl (by (try simp only [List.map_toArray, List.map_cons, List.map_nil]); first | done | rfl | (simp only [List.length_drop, List.length_take]; rfl)) ?_; (with_reducible refine (dasdref01_Text.calls kj2 a0 t419 _ A8.out).mono ?_); rintro e w12 ⟨rfl, hb⟩; refine ⟨_, rfl, ?_⟩; have n0_ := Aside0.mk (below_step (by repeat (first | (with_reducible first | exact HB.out | apply below_alloc | apply pw_below_drewN | apply below_drew1) | exact HB.out)) hb); clear HB; have HB := n0_; clear n0_; (try clear hb); (try clear hb2); (try clear hk); (try clear hi)) | ((with_reducible refine gate_callee (f := 27) rfl ?_); refine goesL_ (some 17) rfl rfl Try.func27 (by kernel_rfl) rfl #[.int .u64 (IntKind.u64.wrap (a1))] rfl (by (try simp only [List.map_toArray, List.map_cons, List.map_nil]); first | done | rfl | (simp only [List.length_drop, List.length_take]; rfl)) ?_; (with_reducible refine (dasdref01_Number.calls kj2 (IntKind.u64.wrap (a1)) t420 _ A9.out).mono ?_); rintro e w13 ⟨rfl, hb⟩; refine ⟨_, rfl, ?_⟩; have n0_ := Aside0.mk (below_step (by repeat (first | (with_reducible first | exact HB.out | apply below_alloc | apply pw_below_drewN | apply below_drew1) | exact HB.out)) hb); clear HB; have HB := n0_; clear n0_; (try clear hb); (try clear hb2); (try clear hk); (try clear hi)) | ((with_reducible refine gate_callee (f := 103) rfl ?_); refine goesL_ (some 19) rfl rfl Try.func103 (by kernel_rfl) rfl #[.string (t419 ++ t420), .int .i64 1024] rfl (by (try simp only [List.map_toArray, List.map_cons, List.map_nil]); first | done | rfl | (simp only [List.length_drop, List.length_take]; rfl)) ?_; (with_reducible refine (dasdref01_Padded.calls kj2 (t419 ++ t420) 1024 t421 _ A11.out).mono ?_); rintro e w' ⟨rfl, ⟨nd, rfl⟩⟩; refine ⟨_, rfl, ?_⟩))
     go_ret
     exact ⟨by first | rfl | (simp [errW_none, errW_some] <;> rfl) | (simp [*, errW_none, errW_some] <;> rfl), by repeat (first | (with_reducible first | exact HB.out | apply below_alloc | apply pw_below_drewN | apply below_drew1) | exact HB.out)⟩
    ·rw [if_neg c10] at H
     exact absurd H (by simp)
end Go.Proofs.Ytegefemkmdlmaaa.P
