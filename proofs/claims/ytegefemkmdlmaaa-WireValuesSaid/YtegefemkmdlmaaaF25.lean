-- Printed by a program of this session (hand.py) out of the translation. Lean checks it.
import Derived.Test.YtegefemkmdlmaaaF0
import Derived.Test.YtegefemkmdlmaaaF26
import Derived.Test.YtegefemkmdlmaaaF28
import Derived.Test.YtegefemkmdlmaaaF62
import Derived.Test.YtegefemkmdlmaaaF65
import Derived.Test.YtegefemkmdlmaaaF71
import Derived.Test.YtegefemkmdlmaaaF2110
namespace Go.Proofs.Ytegefemkmdlmaaa.P
open Go.RowKit Go.Proofs.YtegefemkmdlmaaaW.PrintWords Go.Proofs.YtegefemkmdlmaaaW.PrintLast Go.Proofs.YtegefemkmdlmaaaW.PrintMore
attribute [local go_sem] max2_int min2_int max_two min_two max_three min_three max_four min_four   -- for this text's walks alone
set_option linter.unusedVariables false
set_option linter.unusedSimpArgs false

/-! ### dasdlaw01_awake: function 25 -/
def dasdlaw01_awake.j0 : Nat → Bool → Option (Bool)
  | 0, _ => none
  | k + 1, x15 => if x15 = true then (some false) else ((wire_NewReader.f (⟨#[128, 0]⟩ : ByteArray)).bind fun bt107 => ((wire_Reader_Number.f bt107.1 bt107.2).bind fun bt110 => (if bt110.1 = 0 then ((wire_Reader_End.f bt110.2.1 bt110.2.2).bind fun bt113 => (some (bt113.1 == 11))) else (some false))))
def dasdlaw01_awake.f (k : Nat)  : Option (Bool) := (wire_AppendNumber.f (⟨#[120]⟩ : ByteArray) 0).bind fun t103 => (if t103.toList = ([120, 0] : List UInt8) then ((wire_AppendNumber.f (⟨#[]⟩ : ByteArray) 127).bind fun t104 => (if t104.toList = ([127] : List UInt8) then ((wire_AppendNumber.f (⟨#[]⟩ : ByteArray) 300).bind fun t105 => (if t105.toList = ([172, 2] : List UInt8) then ((wire_AppendInt.f (⟨#[]⟩ : ByteArray) (-3)).bind fun t106 => (dasdlaw01_awake.j0 k (t106.toList != ([5] : List UInt8)))) else (dasdlaw01_awake.j0 k true))) else (dasdlaw01_awake.j0 k true))) else (dasdlaw01_awake.j0 k true))
theorem dasdlaw01_awake.mono_l : ∀ k, (∀ y0, LeO (dasdlaw01_awake.j0 k y0) (dasdlaw01_awake.j0 (k + 1) y0))
  | 0 => fun _ r h => by simp [dasdlaw01_awake.j0] at h
  | k + 1 => by
    have ih0 := dasdlaw01_awake.mono_l k
    · intro y0
      unfold dasdlaw01_awake.j0
      repeat' first
      | (with_reducible exact ih0 _)
      | (with_reducible exact LeO.refl _)
      | (with_reducible exact LeO.none _)
      | (with_reducible refine LeO.ite ?_ ?_)
      | (with_reducible refine LeO.bind ?_ (fun _ => ?_))
      | exact ih0 _
      | exact LeO.none _
      | refine LeO.ite ?_ ?_
      | refine LeO.bind ?_ (fun _ => ?_)
theorem dasdlaw01_awake.mono : ∀ k, LeO (dasdlaw01_awake.f k ) (dasdlaw01_awake.f (k + 1) ) := by
  intro  k
  have ih0 := dasdlaw01_awake.mono_l k
  unfold dasdlaw01_awake.f
  repeat' first
      | (with_reducible exact ih0 _)
      | (with_reducible exact LeO.refl _)
      | (with_reducible exact LeO.none _)
      | (with_reducible refine LeO.ite ?_ ?_)
      | (with_reducible refine LeO.bind ?_ (fun _ => ?_))
      | exact ih0 _
      | exact LeO.none _
      | refine LeO.ite ?_ ?_
      | refine LeO.bind ?_ (fun _ => ?_)
set_option maxHeartbeats 8000000 in
set_option maxRecDepth 100000 in
theorem dasdlaw01_awake.calls (k : Nat)  (r : Bool) (w : World) (h : dasdlaw01_awake.f k  = some r) :
    Calls Try.prog 25 #[] w fun e w' => e = .returned (.bool r) ∧ Below w.heap.size w w' := by
  have HB := Aside0.mk (Below.refl w.heap.size w)
  have H : ((wire_AppendNumber.f (⟨#[120]⟩ : ByteArray) 0).bind fun t103 => (if t103.toList = ([120, 0] : List UInt8) then ((wire_AppendNumber.f (⟨#[]⟩ : ByteArray) 127).bind fun t104 => (if t104.toList = ([127] : List UInt8) then ((wire_AppendNumber.f (⟨#[]⟩ : ByteArray) 300).bind fun t105 => (if t105.toList = ([172, 2] : List UInt8) then ((wire_AppendInt.f (⟨#[]⟩ : ByteArray) (-3)).bind fun t106 => (dasdlaw01_awake.j0 k (t106.toList != ([5] : List UInt8)))) else (dasdlaw01_awake.j0 k true))) else (dasdlaw01_awake.j0 k true))) else (dasdlaw01_awake.j0 k true))) = some r := h
  clear h
  have HC1 := Aside0.mk H
  clear H
  go_enter Try.func25, Try.ntmps25
  go_upto_region 1 with (fail)
  go_cut [15] (fun v15 wc => ∃ (kq : Nat) (x15_0 : Bool), v15 = .bool x15_0 ∧ Aside0 (dasdlaw01_awake.j0 kq x15_0 = some r) ∧ Aside0 (kq ≤ k) ∧ Aside0 (Below w.heap.size w wc))
  case first =>
    have H := HC1.out
    clear HC1
    replace H := Option.bind_eq_some_iff.mp H
    obtain ⟨t103, A20, H⟩ := H
    replace H : (if t103.toList = ([120, 0] : List UInt8) then ((wire_AppendNumber.f (⟨#[]⟩ : ByteArray) 127).bind fun t104 => (if t104.toList = ([127] : List UInt8) then ((wire_AppendNumber.f (⟨#[]⟩ : ByteArray) 300).bind fun t105 => (if t105.toList = ([172, 2] : List UInt8) then ((wire_AppendInt.f (⟨#[]⟩ : ByteArray) (-3)).bind fun t106 => (dasdlaw01_awake.j0 k (t106.toList != ([5] : List UInt8)))) else (dasdlaw01_awake.j0 k true))) else (dasdlaw01_awake.j0 k true))) else (dasdlaw01_awake.j0 k true)) = some r := H
    have A2 := Aside0.mk A20
    clear A20
    by_cases c3 : t103.toList = ([120, 0] : List UInt8)
    · rw [if_pos c3] at H
      have c3b0 : (t103.toList == ([120, 0] : List UInt8)) = true := beq_iff_eq.mpr c3
      have c3b1 : (t103.toList != ([120, 0] : List UInt8)) = false := bne_eq_false_iff_eq.mpr c3
      clear c3
      (first | rw [c3b0] | (simp only [i64_w, i32_w]; rw [c3b0]) | skip)
      replace H := Option.bind_eq_some_iff.mp H
      obtain ⟨t104, A40, H⟩ := H
      replace H : (if t104.toList = ([127] : List UInt8) then ((wire_AppendNumber.f (⟨#[]⟩ : ByteArray) 300).bind fun t105 => (if t105.toList = ([172, 2] : List UInt8) then ((wire_AppendInt.f (⟨#[]⟩ : ByteArray) (-3)).bind fun t106 => (dasdlaw01_awake.j0 k (t106.toList != ([5] : List UInt8)))) else (dasdlaw01_awake.j0 k true))) else (dasdlaw01_awake.j0 k true)) = some r := H
      have A4 := Aside0.mk A40
      clear A40
      by_cases c5 : t104.toList = ([127] : List UInt8)
      · rw [if_pos c5] at H
        have c5b0 : (t104.toList == ([127] : List UInt8)) = true := beq_iff_eq.mpr c5
        have c5b1 : (t104.toList != ([127] : List UInt8)) = false := bne_eq_false_iff_eq.mpr c5
        clear c5
        replace H := Option.bind_eq_some_iff.mp H
        obtain ⟨t105, A60, H⟩ := H
        replace H : (if t105.toList = ([172, 2] : List UInt8) then ((wire_AppendInt.f (⟨#[]⟩ : ByteArray) (-3)).bind fun t106 => (dasdlaw01_awake.j0 k (t106.toList != ([5] : List UInt8)))) else (dasdlaw01_awake.j0 k true)) = some r := H
        have A6 := Aside0.mk A60
        clear A60
        by_cases c7 : t105.toList = ([172, 2] : List UInt8)
        · rw [if_pos c7] at H
          have c7b0 : (t105.toList == ([172, 2] : List UInt8)) = true := beq_iff_eq.mpr c7
          have c7b1 : (t105.toList != ([172, 2] : List UInt8)) = false := bne_eq_false_iff_eq.mpr c7
          clear c7
          replace H := Option.bind_eq_some_iff.mp H
          obtain ⟨t106, A80, H⟩ := H
          replace H : (dasdlaw01_awake.j0 k (t106.toList != ([5] : List UInt8))) = some r := H
          have A8 := Aside0.mk A80
          clear A80
          have H' := Aside0.mk H
          clear H
          go_wp2_with (first | ((with_reducible refine gate_callee (f := 26) rfl ?_); refine goesL_ (some 2) rfl rfl Try.func26 (by kernel_rfl) rfl #[.string (⟨#[120]⟩ : ByteArray), .int .u64 0] rfl (by (try simp only [List.map_toArray, List.map_cons, List.map_nil]); first | done | rfl | (simp only [List.length_drop, List.length_take]; rfl)) ?_; (with_reducible refine (wire_AppendNumber.calls (⟨#[120]⟩ : ByteArray) 0 t103 _ A2.out).mono ?_); rintro e w9 ⟨rfl, hb⟩; refine ⟨_, rfl, ?_⟩; have n0_ := Aside0.mk (below_step (by repeat (first | (with_reducible first | exact HB.out | apply below_alloc | apply pw_below_drewN | apply below_drew1) | exact HB.out)) hb); clear HB; have HB := n0_; clear n0_; (try clear hb); (try clear hb2); (try clear hk); (try clear hi)) | (go_at_call 26; (with_reducible refine (wire_AppendNumber.calls (⟨#[]⟩ : ByteArray) 127 t104 _ A4.out).mono ?_); rintro e w10 ⟨rfl, hb⟩; have n0_ := Aside0.mk (below_step (by repeat (first | (with_reducible first | exact HB.out | apply below_alloc | apply pw_below_drewN | apply below_drew1) | exact HB.out)) hb); clear HB; have HB := n0_; clear n0_; (try clear hb); (try clear hb2); (try clear hk); (try clear hi)) | (go_at_call 26; (with_reducible refine (wire_AppendNumber.calls (⟨#[]⟩ : ByteArray) 300 t105 _ A6.out).mono ?_); rintro e w11 ⟨rfl, hb⟩; have n0_ := Aside0.mk (below_step (by repeat (first | (with_reducible first | exact HB.out | apply below_alloc | apply pw_below_drewN | apply below_drew1) | exact HB.out)) hb); clear HB; have HB := n0_; clear n0_; (try clear hb); (try clear hb2); (try clear hk); (try clear hi)) | (go_at_call 28; (with_reducible refine (wire_AppendInt.calls (⟨#[]⟩ : ByteArray) (-3) t106 _ A8.out).mono ?_); rintro e w12 ⟨rfl, hb⟩; have n0_ := Aside0.mk (below_step (by repeat (first | (with_reducible first | exact HB.out | apply below_alloc | apply pw_below_drewN | apply below_drew1) | exact HB.out)) hb); clear HB; have HB := n0_; clear n0_; (try clear hb); (try clear hb2); (try clear hk); (try clear hi)))
          go_meet
          case rel => exact ⟨_, ((t106.toList != ([5] : List UInt8))), (by first | rfl | (simp; done) | (simp [*]; done)), H', ⟨by first | omega | exact Nat.le_refl _⟩, ⟨by repeat (first | (with_reducible first | exact HB.out | apply below_alloc | apply pw_below_drewN | apply below_drew1) | exact HB.out)⟩⟩
        · rw [if_neg c7] at H
          have c7b0 : (t105.toList == ([172, 2] : List UInt8)) = false := beq_eq_false_iff_ne.mpr c7
          have c7b1 : (t105.toList != ([172, 2] : List UInt8)) = true := bne_iff_ne.mpr c7
          have H' := Aside0.mk H
          clear H
          go_wp2_with (first | ((with_reducible refine gate_callee (f := 26) rfl ?_); refine goesL_ (some 2) rfl rfl Try.func26 (by kernel_rfl) rfl #[.string (⟨#[120]⟩ : ByteArray), .int .u64 0] rfl (by (try simp only [List.map_toArray, List.map_cons, List.map_nil]); first | done | rfl | (simp only [List.length_drop, List.length_take]; rfl)) ?_; (with_reducible refine (wire_AppendNumber.calls (⟨#[120]⟩ : ByteArray) 0 t103 _ A2.out).mono ?_); rintro e w13 ⟨rfl, hb⟩; refine ⟨_, rfl, ?_⟩; have n0_ := Aside0.mk (below_step (by repeat (first | (with_reducible first | exact HB.out | apply below_alloc | apply pw_below_drewN | apply below_drew1) | exact HB.out)) hb); clear HB; have HB := n0_; clear n0_; (try clear hb); (try clear hb2); (try clear hk); (try clear hi)) | (go_at_call 26; (with_reducible refine (wire_AppendNumber.calls (⟨#[]⟩ : ByteArray) 127 t104 _ A4.out).mono ?_); rintro e w14 ⟨rfl, hb⟩; have n0_ := Aside0.mk (below_step (by repeat (first | (with_reducible first | exact HB.out | apply below_alloc | apply pw_below_drewN | apply below_drew1) | exact HB.out)) hb); clear HB; have HB := n0_; clear n0_; (try clear hb); (try clear hb2); (try clear hk); (try clear hi)) | (go_at_call 26; (with_reducible refine (wire_AppendNumber.calls (⟨#[]⟩ : ByteArray) 300 t105 _ A6.out).mono ?_); rintro e w15 ⟨rfl, hb⟩; have n0_ := Aside0.mk (below_step (by repeat (first | (with_reducible first | exact HB.out | apply below_alloc | apply pw_below_drewN | apply below_drew1) | exact HB.out)) hb); clear HB; have HB := n0_; clear n0_; (try clear hb); (try clear hb2); (try clear hk); (try clear hi)))
          go_meet
          case rel => exact ⟨_, (true), (by first | rfl | (simp; done) | (simp [*]; done)), H', ⟨by first | omega | exact Nat.le_refl _⟩, ⟨by repeat (first | (with_reducible first | exact HB.out | apply below_alloc | apply pw_below_drewN | apply below_drew1) | exact HB.out)⟩⟩
      · rw [if_neg c5] at H
        have c5b0 : (t104.toList == ([127] : List UInt8)) = false := beq_eq_false_iff_ne.mpr c5
        have c5b1 : (t104.toList != ([127] : List UInt8)) = true := bne_iff_ne.mpr c5
        have H' := Aside0.mk H
        clear H
        go_wp2_with (first | ((with_reducible refine gate_callee (f := 26) rfl ?_); refine goesL_ (some 2) rfl rfl Try.func26 (by kernel_rfl) rfl #[.string (⟨#[120]⟩ : ByteArray), .int .u64 0] rfl (by (try simp only [List.map_toArray, List.map_cons, List.map_nil]); first | done | rfl | (simp only [List.length_drop, List.length_take]; rfl)) ?_; (with_reducible refine (wire_AppendNumber.calls (⟨#[120]⟩ : ByteArray) 0 t103 _ A2.out).mono ?_); rintro e w16 ⟨rfl, hb⟩; refine ⟨_, rfl, ?_⟩; have n0_ := Aside0.mk (below_step (by repeat (first | (with_reducible first | exact HB.out | apply below_alloc | apply pw_below_drewN | apply below_drew1) | exact HB.out)) hb); clear HB; have HB := n0_; clear n0_; (try clear hb); (try clear hb2); (try clear hk); (try clear hi)) | (go_at_call 26; (with_reducible refine (wire_AppendNumber.calls (⟨#[]⟩ : ByteArray) 127 t104 _ A4.out).mono ?_); rintro e w17 ⟨rfl, hb⟩; have n0_ := Aside0.mk (below_step (by repeat (first | (with_reducible first | exact HB.out | apply below_alloc | apply pw_below_drewN | apply below_drew1) | exact HB.out)) hb); clear HB; have HB := n0_; clear n0_; (try clear hb); (try clear hb2); (try clear hk); (try clear hi)))
        go_meet
        case rel => exact ⟨_, (true), (by first | rfl | (simp; done) | (simp [*]; done)), H', ⟨by first | omega | exact Nat.le_refl _⟩, ⟨by repeat (first | (with_reducible first | exact HB.out | apply below_alloc | apply pw_below_drewN | apply below_drew1) | exact HB.out)⟩⟩
    · rw [if_neg c3] at H
      have c3b0 : (t103.toList == ([120, 0] : List UInt8)) = false := beq_eq_false_iff_ne.mpr c3
      have c3b1 : (t103.toList != ([120, 0] : List UInt8)) = true := bne_iff_ne.mpr c3
      (first | rw [c3b0] | (simp only [i64_w, i32_w]; rw [c3b0]) | skip)
      have H' := Aside0.mk H
      clear H
      go_wp2_with (first | ((with_reducible refine gate_callee (f := 26) rfl ?_); refine goesL_ (some 2) rfl rfl Try.func26 (by kernel_rfl) rfl #[.string (⟨#[120]⟩ : ByteArray), .int .u64 0] rfl (by (try simp only [List.map_toArray, List.map_cons, List.map_nil]); first | done | rfl | (simp only [List.length_drop, List.length_take]; rfl)) ?_; (with_reducible refine (wire_AppendNumber.calls (⟨#[120]⟩ : ByteArray) 0 t103 _ A2.out).mono ?_); rintro e w18 ⟨rfl, hb⟩; refine ⟨_, rfl, ?_⟩; have n0_ := Aside0.mk (below_step (by repeat (first | (with_reducible first | exact HB.out | apply below_alloc | apply pw_below_drewN | apply below_drew1) | exact HB.out)) hb); clear HB; have HB := n0_; clear n0_; (try clear hb); (try clear hb2); (try clear hk); (try clear hi)))
      go_meet
      case rel => exact ⟨_, (true), (by first | rfl | (simp; done) | (simp [*]; done)), H', ⟨by first | omega | exact Nat.le_refl _⟩, ⟨by repeat (first | (with_reducible first | exact HB.out | apply below_alloc | apply pw_below_drewN | apply below_drew1) | exact HB.out)⟩⟩
  case rest =>
    clear HC1
    try clear c2
    try clear p2
    try clear c3
    try clear c3b0
    try clear c3b1
    try clear c5
    try clear c5b0
    try clear c5b1
    try clear c7
    try clear c7b0
    try clear c7b1
    obtain ⟨kq, x15_0, rfl, HA, HJ0, HB⟩ := hcut
    cases kq with
    | zero => exact absurd HA.out (by simp [dasdlaw01_awake.j0])
    | succ kj0 =>
      have H := HA.out
      clear HA
      simp only [dasdlaw01_awake.j0] at H
      by_cases c19 : x15_0 = true
      · subst c19
        have H1 : (some false) = some r := by rw [if_pos rfl] at H; exact H
        clear H
        have H := H1
        clear H1
        obtain rfl := Option.some.inj H
        go_wp2
        go_ret
        exact ⟨by first | rfl | (simp [errW_none, errW_some] <;> rfl) | (simp [*, errW_none, errW_some] <;> rfl), by repeat (first | (with_reducible first | exact HB.out | apply below_alloc | apply pw_below_drewN | apply below_drew1) | exact HB.out)⟩
      · replace c19 := Bool.eq_false_iff.mpr c19
        subst c19
        have H1 : ((wire_NewReader.f (⟨#[128, 0]⟩ : ByteArray)).bind fun bt107 => ((wire_Reader_Number.f bt107.1 bt107.2).bind fun bt110 => (if bt110.1 = 0 then ((wire_Reader_End.f bt110.2.1 bt110.2.2).bind fun bt113 => (some (bt113.1 == 11))) else (some false)))) = some r := by rw [if_neg (show ¬ (false = true) by decide)] at H; exact H
        clear H
        have H := H1
        clear H1
        replace H := Option.bind_eq_some_iff.mp H
        obtain ⟨⟨t107, t108⟩, A200, H⟩ := H
        replace H : ((wire_Reader_Number.f t107 t108).bind fun bt110 => (if bt110.1 = 0 then ((wire_Reader_End.f bt110.2.1 bt110.2.2).bind fun bt113 => (some (bt113.1 == 11))) else (some false))) = some r := H
        have A20 := Aside0.mk A200
        clear A200
        replace H := Option.bind_eq_some_iff.mp H
        obtain ⟨⟨t110, t111, t112⟩, A210, H⟩ := H
        replace H : (if t110 = 0 then ((wire_Reader_End.f t111 t112).bind fun bt113 => (some (bt113.1 == 11))) else (some false)) = some r := H
        have A21 := Aside0.mk A210
        clear A210
        by_cases c22 : t110 = 0
        · rw [if_pos c22] at H
          have c22b0 : (t110 == 0) = true := beq_iff_eq.mpr c22
          have c22b1 : (t110 != 0) = false := bne_eq_false_iff_eq.mpr c22
          clear c22
          replace H := Option.bind_eq_some_iff.mp H
          obtain ⟨⟨t113, t114, t115⟩, A230, H⟩ := H
          replace H : (some (t113 == 11)) = some r := H
          have A23 := Aside0.mk A230
          clear A230
          obtain rfl := Option.some.inj H
          go_wp2_with (first | ((with_reducible refine gate_callee (f := 62) rfl ?_); refine goesL_ (some 16) rfl rfl Try.func62 (by kernel_rfl) rfl #[.string (⟨#[128, 0]⟩ : ByteArray)] rfl (by (try simp only [List.map_toArray, List.map_cons, List.map_nil]); first | done | rfl | (simp only [List.length_drop, List.length_take]; rfl)) ?_; (with_reducible refine (wire_NewReader.calls (⟨#[128, 0]⟩ : ByteArray) t107 t108 w _ ?side1 A20.out).mono ?_); (case side1 => repeat (first | (with_reducible first | exact HB.out | apply below_alloc | apply pw_below_drewN | apply below_drew1) | exact HB.out)); rintro e w24 ⟨g109, rfl, hi, hb, hb2⟩; refine ⟨_, rfl, ?_⟩; have n0_ := Aside0.mk (hb); have n1_ := Aside0.mk (hi); clear HB; have HB := n0_; have HI109 := n1_; clear n0_ n1_; (try clear hb); (try clear hb2); (try clear hk); (try clear hi)) | (go_at_call 71; (with_reducible refine (wire_Reader_Number.calls g109 t107 t108 t110 t111 t112 w _ ?side1 ?side2 A21.out).mono ?_); (case side1 => repeat (first | (with_reducible first | exact HI109.out | apply IsS110.alloc | apply IsS110.drewN | apply IsS110.drew | apply IsS110.set_0 | apply IsS110.set_1) | exact HI109.out)); (case side2 => repeat (first | (with_reducible first | exact HB.out | apply below_alloc | apply pw_below_drewN | apply below_drew1 | refine below_set ?_ (IsS110.ge HI109.out)) | exact HB.out)); rintro e w25 ⟨rfl, hi, hb, hk⟩; have n0_ := Aside0.mk (hb); have n1_ := Aside0.mk (hi); clear HB; clear HI109; have HB := n0_; have HI109 := n1_; clear n0_ n1_; (try clear hb); (try clear hb2); (try clear hk); (try clear hi)) | (go_at_call 65; (with_reducible refine (wire_Reader_End.calls g109 t111 t112 t113 t114 t115 w _ ?side1 ?side2 A23.out).mono ?_); (case side1 => repeat (first | (with_reducible first | exact HI109.out | apply IsS110.alloc | apply IsS110.drewN | apply IsS110.drew | apply IsS110.set_0 | apply IsS110.set_1) | exact HI109.out)); (case side2 => repeat (first | (with_reducible first | exact HB.out | apply below_alloc | apply pw_below_drewN | apply below_drew1 | refine below_set ?_ (IsS110.ge HI109.out)) | exact HB.out)); rintro e w26 ⟨rfl, hi, hb, hk⟩; have n0_ := Aside0.mk (hb); have n1_ := Aside0.mk (hi); clear HB; clear HI109; have HB := n0_; have HI109 := n1_; clear n0_ n1_; (try clear hb); (try clear hb2); (try clear hk); (try clear hi)))
          go_ret
          exact ⟨by first | rfl | (simp [errW_none, errW_some] <;> rfl) | (simp [*, errW_none, errW_some] <;> rfl), by repeat (first | (with_reducible first | exact HB.out | apply below_alloc | apply pw_below_drewN | apply below_drew1 | refine below_set ?_ (IsS110.ge HI109.out)) | exact HB.out)⟩
        · rw [if_neg c22] at H
          have c22b0 : (t110 == 0) = false := beq_eq_false_iff_ne.mpr c22
          have c22b1 : (t110 != 0) = true := bne_iff_ne.mpr c22
          obtain rfl := Option.some.inj H
          go_wp2_with (first | ((with_reducible refine gate_callee (f := 62) rfl ?_); refine goesL_ (some 16) rfl rfl Try.func62 (by kernel_rfl) rfl #[.string (⟨#[128, 0]⟩ : ByteArray)] rfl (by (try simp only [List.map_toArray, List.map_cons, List.map_nil]); first | done | rfl | (simp only [List.length_drop, List.length_take]; rfl)) ?_; (with_reducible refine (wire_NewReader.calls (⟨#[128, 0]⟩ : ByteArray) t107 t108 w _ ?side1 A20.out).mono ?_); (case side1 => repeat (first | (with_reducible first | exact HB.out | apply below_alloc | apply pw_below_drewN | apply below_drew1) | exact HB.out)); rintro e w27 ⟨g109, rfl, hi, hb, hb2⟩; refine ⟨_, rfl, ?_⟩; have n0_ := Aside0.mk (hb); have n1_ := Aside0.mk (hi); clear HB; have HB := n0_; have HI109 := n1_; clear n0_ n1_; (try clear hb); (try clear hb2); (try clear hk); (try clear hi)) | (go_at_call 71; (with_reducible refine (wire_Reader_Number.calls g109 t107 t108 t110 t111 t112 w _ ?side1 ?side2 A21.out).mono ?_); (case side1 => repeat (first | (with_reducible first | exact HI109.out | apply IsS110.alloc | apply IsS110.drewN | apply IsS110.drew | apply IsS110.set_0 | apply IsS110.set_1) | exact HI109.out)); (case side2 => repeat (first | (with_reducible first | exact HB.out | apply below_alloc | apply pw_below_drewN | apply below_drew1 | refine below_set ?_ (IsS110.ge HI109.out)) | exact HB.out)); rintro e w28 ⟨rfl, hi, hb, hk⟩; have n0_ := Aside0.mk (hb); have n1_ := Aside0.mk (hi); clear HB; clear HI109; have HB := n0_; have HI109 := n1_; clear n0_ n1_; (try clear hb); (try clear hb2); (try clear hk); (try clear hi)))
          go_ret
          exact ⟨by first | rfl | (simp [errW_none, errW_some] <;> rfl) | (simp [*, errW_none, errW_some] <;> rfl), by repeat (first | (with_reducible first | exact HB.out | apply below_alloc | apply pw_below_drewN | apply below_drew1 | refine below_set ?_ (IsS110.ge HI109.out)) | exact HB.out)⟩

end Go.Proofs.Ytegefemkmdlmaaa.P
