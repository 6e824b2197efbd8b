-- Printed by a program of this session (hand.py) out of the translation. Lean checks it.
import Derived.Test.YtegefemkmdlmaaaF0
namespace Go.Proofs.Ytegefemkmdlmaaa.P
open Go.RowKit Go.Proofs.YtegefemkmdlmaaaW.PrintWords Go.Proofs.YtegefemkmdlmaaaW.PrintLast Go.Proofs.YtegefemkmdlmaaaW.PrintMore
attribute [local go_sem] max2_int min2_int max_two min_two max_three min_three max_four min_four   -- for this text's walks alone
set_option linter.unusedVariables false
set_option linter.unusedSimpArgs false

/-! ### dasdref05_set: function 112 -/
def dasdref05_set.l0 : Nat → List Bool → List (S103) → Int → Option ((List (S103)))
  | 0, _, _, _ => none
  | k + 1, x0, x3, x4 => if x4 < (x0.length : Int) then (if 0 ≤ x4 then (if rdOf false x0 x4 = true then (if x4 > 0 then (if 0 ≤ (wrap64 (x4 - 1)) then (if (wrap64 (x4 - 1)) < (x0.length : Int) then (if rdOf false x0 (wrap64 (x4 - 1)) = true then (if 0 ≤ (wrap64 ((x3.length : Int) - 1)) then (if (wrap64 ((x3.length : Int) - 1)) < (x3.length : Int) then (dasdref05_set.l0 k x0 (x3.set ((wrap64 ((x3.length : Int) - 1)) : Int).toNat (⟨(rd_T103 x3 (wrap64 ((x3.length : Int) - 1))).f0, wrap64 (((rd_T103 x3 (wrap64 ((x3.length : Int) - 1))).f1) + 1)⟩ : S103)) (wrap64 (x4 + 1))) else (none)) else (none)) else (if x3.length < 8796093022208 then (dasdref05_set.l0 k x0 (x3 ++ [(⟨x4, 1⟩ : S103)]) (wrap64 (x4 + 1))) else (none))) else (none)) else (none)) else (if x3.length < 8796093022208 then (dasdref05_set.l0 k x0 (x3 ++ [(⟨x4, 1⟩ : S103)]) (wrap64 (x4 + 1))) else (none))) else (dasdref05_set.l0 k x0 x3 (wrap64 (x4 + 1)))) else (none)) else (some x3)
def dasdref05_set.f (k : Nat) (l0 : List Bool) : Option ((List (S103))) := dasdref05_set.l0 k l0 (([] : List (S103))) 0
theorem dasdref05_set.mono_l : ∀ k, (∀ y0 y1 y2, LeO (dasdref05_set.l0 k y0 y1 y2) (dasdref05_set.l0 (k + 1) y0 y1 y2))
  | 0 => fun _ _ _ r h => by simp [dasdref05_set.l0] at h
  | k + 1 => by
    have ih0 := dasdref05_set.mono_l k
    · intro y0 y1 y2
      unfold dasdref05_set.l0
      repeat' first
      | (with_reducible exact ih0 _ _ _)
      | (with_reducible exact LeO.refl _)
      | (with_reducible exact LeO.none _)
      | (with_reducible refine LeO.ite ?_ ?_)
      | (with_reducible refine LeO.bind ?_ (fun _ => ?_))
      | exact ih0 _ _ _
      | exact LeO.none _
      | refine LeO.ite ?_ ?_
      | refine LeO.bind ?_ (fun _ => ?_)
theorem dasdref05_set.mono : ∀ a0 k, LeO (dasdref05_set.f k a0) (dasdref05_set.f (k + 1) a0) := by
  intro a0 k
  have ih0 := dasdref05_set.mono_l k
  unfold dasdref05_set.f
  repeat' first
      | (with_reducible exact ih0 _ _ _)
      | (with_reducible exact LeO.refl _)
      | (with_reducible exact LeO.none _)
      | (with_reducible refine LeO.ite ?_ ?_)
      | (with_reducible refine LeO.bind ?_ (fun _ => ?_))
      | exact ih0 _ _ _
      | exact LeO.none _
      | refine LeO.ite ?_ ?_
      | refine LeO.bind ?_ (fun _ => ?_)
set_option maxHeartbeats 8000000 in
set_option maxRecDepth 100000 in
theorem dasdref05_set.calls (k : Nat) (A0 : Option Addr) (c0 : Nat) (l0 : List Bool) (r : List (S103)) (w : World) (hr0 : Kd.C Kd.bool w A0 l0.length l0) (hc0 : l0.length ≤ c0) (h : dasdref05_set.f k l0 = some r) :
    Calls Try.prog 112 #[.slice A0 l0.length c0] w fun e w' => ∃ v0_ : Value, e = .returned (v0_) ∧ Kd.R k103 103 w' w.heap.size (fun _ => True) v0_ r ∧ Below w.heap.size w w' := by
  have hu103 := Try.underlying103
  have HR0 := Aside0.mk hr0
  have HC0 := Aside0.mk hc0
  clear hr0 hc0
  have HB := Aside0.mk (Below.refl w.heap.size w)
  have H : (dasdref05_set.l0 k l0 (([] : List (S103))) 0) = some r := h
  clear h
  obtain ⟨y301, hy301⟩ : ∃ y_ : List (S103), y_ = (([] : List (S103))) := ⟨_, rfl⟩
  replace H : (dasdref05_set.l0 k l0 y301 0) = some r := by first | (rw [hy301]; with_reducible exact H) | (have H2_ := (Option.bind_some _ _).symm.trans H; rw [hy301]; with_reducible exact H2_) | (have H2_ := (Option.bind_some _ _).symm.trans H; with_reducible exact H2_) | with_reducible exact H | (rw [hy301]; exact H) | exact H
  have Ny301 := Aside0.mk hy301
  clear hy301
  have H' := Aside0.mk H
  clear H
  go_enter Try.func112, Try.ntmps112
  go_wp2_with (first | ((with_reducible refine gate_dst (N := 5) rfl ?_); refine Kd.R_lit k103 _ 103 ?hg (N := 5) ?hd (xs := ([] : List (S103))) (inner := []) (ok := fun _ => True) (okp := fun _ => True) ?hr ?hp (fun _ hk => hk) trivial (Below.refl _ _) (Nat.le_refl _) (by simp) ?_; (case hd => rfl); (case hg => rfl); (case hr => first | (go_simp; done) | (go_simp; rfl)); (case hp => exact (Reps.none _ _)); intro v302 w2 ho3 hb hg_ hnew_; clear hg_ hnew_; (first | rw [← Ny301.out] at ho3 | (simp only [Int.reduceToNat] at ho3; rw [← Ny301.out] at ho3)); have n0_ := Aside0.mk (Kd.R_lower ho3 (below_size (by repeat (first | (with_reducible first | exact HB.out | apply below_alloc | apply pw_below_drewN | apply below_drew1) | exact HB.out)))); have n1_ := Aside0.mk (below_step (by repeat (first | (with_reducible first | exact HB.out | apply below_alloc | apply pw_below_drewN | apply below_drew1) | exact HB.out)) hb); clear HB; have HO303 := n0_; have HB := n1_; clear n0_ n1_; clear hb ho3))
  go_loopg [3, 4] k (fun kq v3 v4 w' => ∃ (x3_1 : List (S103)) (x4_1 : Int), v4 = .int .i64 x4_1 ∧ Aside0 (dasdref05_set.l0 kq l0 x3_1 x4_1 = some r) ∧ Aside0 (kq ≤ k) ∧ Aside0 (Kd.R k103 103 w' w.heap.size (fun _ => True) v3 x3_1) ∧ Aside0 (Below w.heap.size w w'))
  case atStart => exact ⟨(y301), (0), (by first | rfl | (simp; done) | (simp [*]; done)), H', ⟨Nat.le_refl _⟩, ⟨by (with_reducible repeat (first | apply Kd.R_alloc | apply Kd.R_drewN | apply Kd.R_drew)); exact HO303.out⟩, ⟨by repeat (first | (with_reducible first | exact HB.out | apply below_alloc | apply pw_below_drewN | apply below_drew1) | exact HB.out)⟩⟩
  case round =>
    clear H'
    try clear c1
    try clear p2
    obtain ⟨x3_1, x4_1, rfl, HA, HK1, HO_3, HB⟩ := hrel
    cases gk with
    | zero => exact absurd HA.out (by simp [dasdref05_set.l0])
    | succ k1 =>
      have H := HA.out
      clear HA
      simp only [dasdref05_set.l0] at H
      by_cases c4 : x4_1 < (l0.length : Int)
      · rw [if_pos c4] at H
        have c4b0 : decide (x4_1 < (l0.length : Int)) = true := decide_eq_true c4
        clear c4
        by_cases c5 : 0 ≤ x4_1
        · rw [if_pos c5] at H
          have c5b0 : decide (0 ≤ x4_1) = true := decide_eq_true c5
          clear c5
          obtain ⟨bq6, hbq6⟩ : ∃ b_ : Bool, b_ = (rdOf false l0 x4_1) := ⟨_, rfl⟩
          replace H : (if bq6 = true then (if x4_1 > 0 then (if 0 ≤ (wrap64 (x4_1 - 1)) then (if (wrap64 (x4_1 - 1)) < (l0.length : Int) then (if rdOf false l0 (wrap64 (x4_1 - 1)) = true then (if 0 ≤ (wrap64 ((x3_1.length : Int) - 1)) then (if (wrap64 ((x3_1.length : Int) - 1)) < (x3_1.length : Int) then (dasdref05_set.l0 k1 l0 (x3_1.set ((wrap64 ((x3_1.length : Int) - 1)) : Int).toNat (⟨(rd_T103 x3_1 (wrap64 ((x3_1.length : Int) - 1))).f0, wrap64 (((rd_T103 x3_1 (wrap64 ((x3_1.length : Int) - 1))).f1) + 1)⟩ : S103)) (wrap64 (x4_1 + 1))) else (none)) else (none)) else (if x3_1.length < 8796093022208 then (dasdref05_set.l0 k1 l0 (x3_1 ++ [(⟨x4_1, 1⟩ : S103)]) (wrap64 (x4_1 + 1))) else (none))) else (none)) else (none)) else (if x3_1.length < 8796093022208 then (dasdref05_set.l0 k1 l0 (x3_1 ++ [(⟨x4_1, 1⟩ : S103)]) (wrap64 (x4_1 + 1))) else (none))) else (dasdref05_set.l0 k1 l0 x3_1 (wrap64 (x4_1 + 1)))) = some r := by rw [← hbq6] at H; exact H
          have Nbq6 := Aside0.mk hbq6
          clear hbq6
          by_cases c7 : bq6 = true
          · subst c7
            have H1 : (if x4_1 > 0 then (if 0 ≤ (wrap64 (x4_1 - 1)) then (if (wrap64 (x4_1 - 1)) < (l0.length : Int) then (if rdOf false l0 (wrap64 (x4_1 - 1)) = true then (if 0 ≤ (wrap64 ((x3_1.length : Int) - 1)) then (if (wrap64 ((x3_1.length : Int) - 1)) < (x3_1.length : Int) then (dasdref05_set.l0 k1 l0 (x3_1.set ((wrap64 ((x3_1.length : Int) - 1)) : Int).toNat (⟨(rd_T103 x3_1 (wrap64 ((x3_1.length : Int) - 1))).f0, wrap64 (((rd_T103 x3_1 (wrap64 ((x3_1.length : Int) - 1))).f1) + 1)⟩ : S103)) (wrap64 (x4_1 + 1))) else (none)) else (none)) else (if x3_1.length < 8796093022208 then (dasdref05_set.l0 k1 l0 (x3_1 ++ [(⟨x4_1, 1⟩ : S103)]) (wrap64 (x4_1 + 1))) else (none))) else (none)) else (none)) else (if x3_1.length < 8796093022208 then (dasdref05_set.l0 k1 l0 (x3_1 ++ [(⟨x4_1, 1⟩ : S103)]) (wrap64 (x4_1 + 1))) else (none))) = some r := by rw [if_pos rfl] at H; exact H
            clear H
            have H := H1
            clear H1
            by_cases c8 : x4_1 > 0
            · rw [if_pos c8] at H
              have c8b0 : decide (0 < x4_1) = true := decide_eq_true c8
              clear c8
              obtain ⟨ji9, hji9⟩ : ∃ j_ : Int, (wrap64 (x4_1 - 1)) = j_ := ⟨_, rfl⟩
              replace H : (if 0 ≤ (ji9) then (if (ji9) < (l0.length : Int) then (if rdOf false l0 (ji9) = true then (if 0 ≤ (wrap64 ((x3_1.length : Int) - 1)) then (if (wrap64 ((x3_1.length : Int) - 1)) < (x3_1.length : Int) then (dasdref05_set.l0 k1 l0 (x3_1.set ((wrap64 ((x3_1.length : Int) - 1)) : Int).toNat (⟨(rd_T103 x3_1 (wrap64 ((x3_1.length : Int) - 1))).f0, wrap64 (((rd_T103 x3_1 (wrap64 ((x3_1.length : Int) - 1))).f1) + 1)⟩ : S103)) (wrap64 (x4_1 + 1))) else (none)) else (none)) else (if x3_1.length < 8796093022208 then (dasdref05_set.l0 k1 l0 (x3_1 ++ [(⟨x4_1, 1⟩ : S103)]) (wrap64 (x4_1 + 1))) else (none))) else (none)) else (none)) = some r := by first | (rw [hji9] at H; exact H) | (simp only [hji9] at H ⊢; exact H)
              have hji9w : (IntKind.i64.wrap (x4_1 - 1)) = ji9 := (i64_w _).trans hji9
              by_cases c10 : 0 ≤ (ji9)
              · rw [if_pos c10] at H
                have c10b0 : decide (0 ≤ (ji9)) = true := decide_eq_true c10
                clear c10
                by_cases c11 : (ji9) < (l0.length : Int)
                · rw [if_pos c11] at H
                  have c11b0 : decide ((ji9) < (l0.length : Int)) = true := decide_eq_true c11
                  clear c11
                  obtain ⟨bq12, hbq12⟩ : ∃ b_ : Bool, b_ = (rdOf false l0 (ji9)) := ⟨_, rfl⟩
                  replace H : (if bq12 = true then (if 0 ≤ (wrap64 ((x3_1.length : Int) - 1)) then (if (wrap64 ((x3_1.length : Int) - 1)) < (x3_1.length : Int) then (dasdref05_set.l0 k1 l0 (x3_1.set ((wrap64 ((x3_1.length : Int) - 1)) : Int).toNat (⟨(rd_T103 x3_1 (wrap64 ((x3_1.length : Int) - 1))).f0, wrap64 (((rd_T103 x3_1 (wrap64 ((x3_1.length : Int) - 1))).f1) + 1)⟩ : S103)) (wrap64 (x4_1 + 1))) else (none)) else (none)) else (if x3_1.length < 8796093022208 then (dasdref05_set.l0 k1 l0 (x3_1 ++ [(⟨x4_1, 1⟩ : S103)]) (wrap64 (x4_1 + 1))) else (none))) = some r := by rw [← hbq12] at H; exact H
                  have Nbq12 := Aside0.mk hbq12
                  clear hbq12
                  by_cases c13 : bq12 = true
                  · subst c13
                    have H1 : (if 0 ≤ (wrap64 ((x3_1.length : Int) - 1)) then (if (wrap64 ((x3_1.length : Int) - 1)) < (x3_1.length : Int) then (dasdref05_set.l0 k1 l0 (x3_1.set ((wrap64 ((x3_1.length : Int) - 1)) : Int).toNat (⟨(rd_T103 x3_1 (wrap64 ((x3_1.length : Int) - 1))).f0, wrap64 (((rd_T103 x3_1 (wrap64 ((x3_1.length : Int) - 1))).f1) + 1)⟩ : S103)) (wrap64 (x4_1 + 1))) else (none)) else (none)) = some r := by rw [if_pos rfl] at H; exact H
                    clear H
                    have H := H1
                    clear H1
                    obtain ⟨ji14, hji14⟩ : ∃ j_ : Int, (wrap64 ((x3_1.length : Int) - 1)) = j_ := ⟨_, rfl⟩
                    replace H : (if 0 ≤ (ji14) then (if (ji14) < (x3_1.length : Int) then (dasdref05_set.l0 k1 l0 (x3_1.set ((ji14) : Int).toNat (⟨(rd_T103 x3_1 (ji14)).f0, wrap64 (((rd_T103 x3_1 (ji14)).f1) + 1)⟩ : S103)) (wrap64 (x4_1 + 1))) else (none)) else (none)) = some r := by first | (rw [hji14] at H; exact H) | (simp only [hji14] at H ⊢; exact H)
                    have hji14w : (IntKind.i64.wrap ((x3_1.length : Int) - 1)) = ji14 := (i64_w _).trans hji14
                    by_cases c15 : 0 ≤ (ji14)
                    · rw [if_pos c15] at H
                      have c15b0 : decide (0 ≤ (ji14)) = true := decide_eq_true c15
                      clear c15
                      by_cases c16 : (ji14) < (x3_1.length : Int)
                      · rw [if_pos c16] at H
                        have c16b0 : decide ((ji14) < (x3_1.length : Int)) = true := decide_eq_true c16
                        clear c16
                        obtain ⟨y307, hy307⟩ : ∃ y_ : List (S103), y_ = (x3_1.set ((ji14) : Int).toNat (⟨(rd_T103 x3_1 (ji14)).f0, wrap64 (((rd_T103 x3_1 (ji14)).f1) + 1)⟩ : S103)) := ⟨_, rfl⟩
                        replace H : (dasdref05_set.l0 k1 l0 y307 (wrap64 (x4_1 + 1))) = some r := by first | (rw [hy307]; with_reducible exact H) | (have H2_ := (Option.bind_some _ _).symm.trans H; rw [hy307]; with_reducible exact H2_) | (have H2_ := (Option.bind_some _ _).symm.trans H; with_reducible exact H2_) | with_reducible exact H | (rw [hy307]; exact H) | exact H
                        have Ny307 := Aside0.mk hy307
                        clear hy307
                        have H' := Aside0.mk H
                        clear H
                        have p304 : 0 ≤ (x4_1 : Int) := of_decide_eq_true (by first | (with_reducible assumption) | assumption)
                        have q304 : x4_1 < (l0.length : Int) := of_decide_eq_true (by first | (with_reducible assumption) | assumption)
                        obtain ⟨ad304, e304, hx304_0⟩ := Kd.at_bool HR0.out x4_1 p304 q304
                        (try rw [← Nbq6.out] at hx304_0)
                        (try rw [← Nbq12.out] at hx304_0)
                        cases e304
                        replace hx304_0 := (HB.out.cell (World.block_lt_of_cell? w _ hx304_0)).trans hx304_0
                        replace p304 := eq_true p304
                        replace q304 := eq_true q304
                        have p305 : 0 ≤ ((ji9) : Int) := of_decide_eq_true (by first | (with_reducible assumption) | assumption)
                        have q305 : (ji9) < (l0.length : Int) := of_decide_eq_true (by first | (with_reducible assumption) | assumption)
                        obtain ⟨ad305, e305, hx305_0⟩ := Kd.at_bool HR0.out (ji9) p305 q305
                        (try rw [← Nbq6.out] at hx305_0)
                        (try rw [← Nbq12.out] at hx305_0)
                        obtain rfl : ad304 = ad305 := (by injection e305)
                        replace hx305_0 := (HB.out.cell (World.block_lt_of_cell? w _ hx305_0)).trans hx305_0
                        replace p305 := eq_true p305
                        replace q305 := eq_true q305
                        obtain ⟨Ao18, co18, eo18⟩ := Kd.R_slice HO_3.out
                        subst eo18
                        have p306 : 0 ≤ ((ji14) : Int) := of_decide_eq_true (by first | (with_reducible assumption) | assumption)
                        have q306 : (ji14) < (x3_1.length : Int) := of_decide_eq_true (by first | (with_reducible assumption) | assumption)
                        obtain ⟨ad306, e306, hx306_0, hx306_1⟩ := at_T103 (Kd.R_reads' HO_3.out).2.2 (ji14) p306 q306
                        cases e306
                        replace p306 := eq_true p306
                        replace q306 := eq_true q306
                        have p17 : 0 ≤ ((ji14) : Int) := of_decide_eq_true (by first | (with_reducible assumption) | assumption)
                        have q17 : ((ji14) : Int) < ((x3_1.length : Int) : Int) := of_decide_eq_true (by first | (with_reducible assumption) | assumption)
                        obtain ⟨go17, co17, eo17, gb17, gl17, cl17, HG17⟩ := Kd.R_form HO_3.out (by omega)
                        (first | cases eo17 | (injection eo17 with ea_ en_ ec_; (first | subst ea_ | (injection ea_ with ea_; subst ea_)); subst ec_; clear en_))
                        have GB17 := Aside0.mk gb17
                        have GG17 := Aside0.mk HG17
                        clear gb17 gl17 HG17
                        (first | simp only [add_plain] at hx306_0 | skip)
                        (first | simp only [add_plain] at hx306_1 | skip)
                        obtain ⟨ce17, hcl17, hM17, hcc17, hfr17⟩ := Kd.R_elem HO_3.out z103 ((ji14) : Int) p17 q17
                        obtain rfl := k103_openM hM17
                        have hx17_0 : wr.cell? ⟨go17, ((ji14) : Int).toNat * 2, none⟩ = some (.int .i64 ((rd_T103 x3_1 (ji14)).f0)) := hcc17 0 _ rfl
                        have hx17_1 : wr.cell? ⟨go17, ((ji14) : Int).toNat * 2 + 1, none⟩ = some (.int .i64 ((rd_T103 x3_1 (ji14)).f1)) := hcc17 1 _ rfl
                        have hf17_0 : wr.frozen? ⟨go17, ((ji14) : Int).toNat * 2, none⟩ = false := hfr17 0
                        have hf17_1 : wr.frozen? ⟨go17, ((ji14) : Int).toNat * 2 + 1, none⟩ = false := hfr17 1
                        clear hcl17 hcc17 hfr17 hM17
                        replace p17 := eq_true p17
                        replace q17 := eq_true q17
                        have HX19 := Aside0.mk (show Kd.R k103 103 wr w.heap.size (fun _ => True) (.slice (some ⟨go17, 0, none⟩) x3_1.length co18) x3_1 from (by (with_reducible repeat (first | apply Kd.R_alloc | apply Kd.R_drewN | apply Kd.R_drew)); exact HO_3.out))
                        obtain ⟨ce19, hcl19, hM19, hcc19, hfr19⟩ := Kd.R_elem HX19.out z103 ((ji14) : Int) (of_decide_eq_true (by first | (with_reducible assumption) | assumption)) (by have h_ : ((ji14) : Int) < ((x3_1.length : Int) : Int) := of_decide_eq_true (by first | (with_reducible assumption) | assumption); first | exact h_ | (have e_ := (Kd.R_reads' HO_3.out).1; omega) | simpa using h_)
                        obtain rfl := k103_openM hM19
                        have HP19 := Kd.R_seg HX19.out ((ji14) : Int) (of_decide_eq_true (by first | (with_reducible assumption) | assumption)) (by have h_ : ((ji14) : Int) < ((x3_1.length : Int) : Int) := of_decide_eq_true (by first | (with_reducible assumption) | assumption); first | exact h_ | (have e_ := (Kd.R_reads' HO_3.out).1; omega) | simpa using h_) (seg := [.int .i64 (wrap64 (((rd_T103 x3_1 (ji14)).f1) + 1))]) (j := 1) hcl19 hcc19 (show 2 ≤ 2 from by decide) (x' := (⟨(rd_T103 x3_1 (ji14)).f0, wrap64 (((rd_T103 x3_1 (ji14)).f1) + 1)⟩ : S103)) (k103_mkM _ _ _ (⟨(rd_T103 x3_1 (ji14)).f0, wrap64 (((rd_T103 x3_1 (ji14)).f1) + 1)⟩ : S103) ) (fun _ hk => hk)
                        have hx19_1 := hcc19 1 _ rfl
                        (try simp only [show (k103).sz = 2 from rfl, Nat.mul_one, Nat.add_zero] at hx19_1)
                        have hf19_1 := hfr19 1
                        (try simp only [show (k103).sz = 2 from rfl, Nat.mul_one, Nat.add_zero] at hf19_1)
                        clear hcl19 hcc19 hfr19 hM19
                        go_wp2_with (first | ((with_reducible refine gate_store (t := 3) (p := 35) rfl ?_); refine store_event (t := 3) (p := 35) (v := ?vo_w20) (w1 := (wr.setCell ⟨go17, ((ji14) : Int).toNat * 2 + 1, none⟩ (.int .i64 (wrap64 (((rd_T103 x3_1 (ji14)).f1) + 1))))) ?hg ?ho ?hn ?hr ?_; (case ho => rfl); (case hg => rfl); (case hn => rfl); (case hr => first | (go_simp; done) | (go_simp; rfl)); intro w20 hw; have hg : wr.grownBy w20 (some go17) := (by rw [hw]; exact HP19.2); have hp_ : Kd.R k103 103 w20 w.heap.size (fun _ => True) (.slice (some ⟨go17, 0, none⟩) x3_1.length co18) y307 := (by rw [hw, Ny307.out]; exact HP19.1); clear HP19; have n0_ := Aside0.mk (hp_); have n1_ := Aside0.mk ((by rw [hw]; exact below_set (HB.out) GB17.out : Below w.heap.size w w20)); clear HO_3; clear HB; have HO_3 := n0_; have HB := n1_; clear n0_ n1_; clear hg hw hp_))
                        go_roundg k1
                        case measure => have := HK1.out; omega
                        case rel => exact ⟨(y307), (wrap64 (x4_1 + 1)), (by first | rfl | (simp; done) | (simp [*]; done)), H', ⟨by have := HK1.out; omega⟩, ⟨by (with_reducible repeat (first | apply Kd.R_alloc | apply Kd.R_drewN | apply Kd.R_drew)); exact HO_3.out⟩, ⟨by repeat (first | (with_reducible first | exact HB.out | apply below_alloc | apply pw_below_drewN | apply below_drew1) | exact HB.out)⟩⟩
                      · rw [if_neg c16] at H
                        exact absurd H (by simp)
                    · rw [if_neg c15] at H
                      exact absurd H (by simp)
                  · replace c13 := Bool.eq_false_iff.mpr c13
                    subst c13
                    have H1 : (if x3_1.length < 8796093022208 then (dasdref05_set.l0 k1 l0 (x3_1 ++ [(⟨x4_1, 1⟩ : S103)]) (wrap64 (x4_1 + 1))) else (none)) = some r := by rw [if_neg (show ¬ (false = true) by decide)] at H; exact H
                    clear H
                    have H := H1
                    clear H1
                    by_cases c21 : x3_1.length < 8796093022208
                    · rw [if_pos c21] at H
                      have LMc21 := Aside0.mk c21
                      clear c21
                      obtain ⟨y308, hy308⟩ : ∃ y_ : List (S103), y_ = (x3_1 ++ [(⟨x4_1, 1⟩ : S103)]) := ⟨_, rfl⟩
                      replace H : (dasdref05_set.l0 k1 l0 y308 (wrap64 (x4_1 + 1))) = some r := by first | (rw [hy308]; with_reducible exact H) | (have H2_ := (Option.bind_some _ _).symm.trans H; rw [hy308]; with_reducible exact H2_) | (have H2_ := (Option.bind_some _ _).symm.trans H; with_reducible exact H2_) | with_reducible exact H | (rw [hy308]; exact H) | exact H
                      have Ny308 := Aside0.mk hy308
                      clear hy308
                      have H' := Aside0.mk H
                      clear H
                      have p304 : 0 ≤ (x4_1 : Int) := of_decide_eq_true (by first | (with_reducible assumption) | assumption)
                      have q304 : x4_1 < (l0.length : Int) := of_decide_eq_true (by first | (with_reducible assumption) | assumption)
                      obtain ⟨ad304, e304, hx304_0⟩ := Kd.at_bool HR0.out x4_1 p304 q304
                      (try rw [← Nbq6.out] at hx304_0)
                      (try rw [← Nbq12.out] at hx304_0)
                      cases e304
                      replace hx304_0 := (HB.out.cell (World.block_lt_of_cell? w _ hx304_0)).trans hx304_0
                      replace p304 := eq_true p304
                      replace q304 := eq_true q304
                      have p305 : 0 ≤ ((ji9) : Int) := of_decide_eq_true (by first | (with_reducible assumption) | assumption)
                      have q305 : (ji9) < (l0.length : Int) := of_decide_eq_true (by first | (with_reducible assumption) | assumption)
                      obtain ⟨ad305, e305, hx305_0⟩ := Kd.at_bool HR0.out (ji9) p305 q305
                      (try rw [← Nbq6.out] at hx305_0)
                      (try rw [← Nbq12.out] at hx305_0)
                      obtain rfl : ad304 = ad305 := (by injection e305)
                      replace hx305_0 := (HB.out.cell (World.block_lt_of_cell? w _ hx305_0)).trans hx305_0
                      replace p305 := eq_true p305
                      replace q305 := eq_true q305
                      go_wp2_with (first | ((with_reducible refine gate_builtin (b := .append) (xs := #[.tmp 36, .tmp 39]) rfl ?_); at_builtin; refine Kd.R_append k103 (w0 := w) w.heap.size rfl (.tmp 36) (.tmp 39) 35 103 (.agg #[(.int .i64 0), (.int .i64 0)]) 16 rfl Try.underlying35 info103 rfl (by decide) (by omega) u3 x3_1 (⟨x4_1, 1⟩ : S103) [.int .i64 x4_1, .int .i64 1] (fun _ => True) (fun _ => False) rfl rfl ?aP (fun _ hk => hk.elim) ?aF ?aO ?aB ?aS ?aL ?_; (case aP => exact k103_mkM _ _ _ (⟨x4_1, 1⟩ : S103)); (case aB => exact (by repeat (first | (with_reducible first | exact HB.out | apply below_alloc | apply pw_below_drewN | apply below_drew1) | exact HB.out))); (case aF => exact (fun _ _ => trivial)); (case aO => exact (by (with_reducible repeat (first | apply Kd.R_alloc | apply Kd.R_drewN | apply Kd.R_drew)); exact HO_3.out)); (case aS => exact (below_size (by repeat (first | (with_reducible first | exact HB.out | apply below_alloc | apply pw_below_drewN | apply below_drew1) | exact HB.out)))); (case aL => have := LMc21.out; omega); intro v309 w22 ho hb hg hat; rw [← Ny308.out] at ho; have n0_ := Aside0.mk (hb); have n1_ := Aside0.mk (ho); clear HB; clear HO_3; have HB := n0_; have HO310 := n1_; clear n0_ n1_; clear ho hb hg hat))
                      go_roundg k1
                      case measure => have := HK1.out; omega
                      case rel => exact ⟨(y308), (wrap64 (x4_1 + 1)), (by first | rfl | (simp; done) | (simp [*]; done)), H', ⟨by have := HK1.out; omega⟩, ⟨by (with_reducible repeat (first | apply Kd.R_alloc | apply Kd.R_drewN | apply Kd.R_drew)); exact HO310.out⟩, ⟨by repeat (first | (with_reducible first | exact HB.out | apply below_alloc | apply pw_below_drewN | apply below_drew1) | exact HB.out)⟩⟩
                    · rw [if_neg c21] at H
                      exact absurd H (by simp)
                · rw [if_neg c11] at H
                  exact absurd H (by simp)
              · rw [if_neg c10] at H
                exact absurd H (by simp)
            · rw [if_neg c8] at H
              have c8b0 : decide (0 < x4_1) = false := decide_eq_false c8
              clear c8
              by_cases c23 : x3_1.length < 8796093022208
              · rw [if_pos c23] at H
                have LMc23 := Aside0.mk c23
                clear c23
                obtain ⟨y311, hy311⟩ : ∃ y_ : List (S103), y_ = (x3_1 ++ [(⟨x4_1, 1⟩ : S103)]) := ⟨_, rfl⟩
                replace H : (dasdref05_set.l0 k1 l0 y311 (wrap64 (x4_1 + 1))) = some r := by first | (rw [hy311]; with_reducible exact H) | (have H2_ := (Option.bind_some _ _).symm.trans H; rw [hy311]; with_reducible exact H2_) | (have H2_ := (Option.bind_some _ _).symm.trans H; with_reducible exact H2_) | with_reducible exact H | (rw [hy311]; exact H) | exact H
                have Ny311 := Aside0.mk hy311
                clear hy311
                have H' := Aside0.mk H
                clear H
                have p304 : 0 ≤ (x4_1 : Int) := of_decide_eq_true (by first | (with_reducible assumption) | assumption)
                have q304 : x4_1 < (l0.length : Int) := of_decide_eq_true (by first | (with_reducible assumption) | assumption)
                obtain ⟨ad304, e304, hx304_0⟩ := Kd.at_bool HR0.out x4_1 p304 q304
                (try rw [← Nbq6.out] at hx304_0)
                cases e304
                replace hx304_0 := (HB.out.cell (World.block_lt_of_cell? w _ hx304_0)).trans hx304_0
                replace p304 := eq_true p304
                replace q304 := eq_true q304
                go_wp2_with (first | ((with_reducible refine gate_builtin (b := .append) (xs := #[.tmp 36, .tmp 39]) rfl ?_); at_builtin; refine Kd.R_append k103 (w0 := w) w.heap.size rfl (.tmp 36) (.tmp 39) 35 103 (.agg #[(.int .i64 0), (.int .i64 0)]) 16 rfl Try.underlying35 info103 rfl (by decide) (by omega) u3 x3_1 (⟨x4_1, 1⟩ : S103) [.int .i64 x4_1, .int .i64 1] (fun _ => True) (fun _ => False) rfl rfl ?aP (fun _ hk => hk.elim) ?aF ?aO ?aB ?aS ?aL ?_; (case aP => exact k103_mkM _ _ _ (⟨x4_1, 1⟩ : S103)); (case aB => exact (by repeat (first | (with_reducible first | exact HB.out | apply below_alloc | apply pw_below_drewN | apply below_drew1) | exact HB.out))); (case aF => exact (fun _ _ => trivial)); (case aO => exact (by (with_reducible repeat (first | apply Kd.R_alloc | apply Kd.R_drewN | apply Kd.R_drew)); exact HO_3.out)); (case aS => exact (below_size (by repeat (first | (with_reducible first | exact HB.out | apply below_alloc | apply pw_below_drewN | apply below_drew1) | exact HB.out)))); (case aL => have := LMc23.out; omega); intro v312 w24 ho hb hg hat; rw [← Ny311.out] at ho; have n0_ := Aside0.mk (hb); have n1_ := Aside0.mk (ho); clear HB; clear HO_3; have HB := n0_; have HO313 := n1_; clear n0_ n1_; clear ho hb hg hat))
                go_roundg k1
                case measure => have := HK1.out; omega
                case rel => exact ⟨(y311), (wrap64 (x4_1 + 1)), (by first | rfl | (simp; done) | (simp [*]; done)), H', ⟨by have := HK1.out; omega⟩, ⟨by (with_reducible repeat (first | apply Kd.R_alloc | apply Kd.R_drewN | apply Kd.R_drew)); exact HO313.out⟩, ⟨by repeat (first | (with_reducible first | exact HB.out | apply below_alloc | apply pw_below_drewN | apply below_drew1) | exact HB.out)⟩⟩
              · rw [if_neg c23] at H
                exact absurd H (by simp)
          · replace c7 := Bool.eq_false_iff.mpr c7
            subst c7
            have H1 : (dasdref05_set.l0 k1 l0 x3_1 (wrap64 (x4_1 + 1))) = some r := by rw [if_neg (show ¬ (false = true) by decide)] at H; exact H
            clear H
            have H := H1
            clear H1
            have H' := Aside0.mk H
            clear H
            have p304 : 0 ≤ (x4_1 : Int) := of_decide_eq_true (by first | (with_reducible assumption) | assumption)
            have q304 : x4_1 < (l0.length : Int) := of_decide_eq_true (by first | (with_reducible assumption) | assumption)
            obtain ⟨ad304, e304, hx304_0⟩ := Kd.at_bool HR0.out x4_1 p304 q304
            (try rw [← Nbq6.out] at hx304_0)
            cases e304
            replace hx304_0 := (HB.out.cell (World.block_lt_of_cell? w _ hx304_0)).trans hx304_0
            replace p304 := eq_true p304
            replace q304 := eq_true q304
            go_wp2
            go_roundg k1
            case measure => have := HK1.out; omega
            case rel => exact ⟨(x3_1), (wrap64 (x4_1 + 1)), (by first | rfl | (simp; done) | (simp [*]; done)), H', ⟨by have := HK1.out; omega⟩, ⟨by (with_reducible repeat (first | apply Kd.R_alloc | apply Kd.R_drewN | apply Kd.R_drew)); exact HO_3.out⟩, ⟨by repeat (first | (with_reducible first | exact HB.out | apply below_alloc | apply pw_below_drewN | apply below_drew1) | exact HB.out)⟩⟩
        · rw [if_neg c5] at H
          exact absurd H (by simp)
      · rw [if_neg c4] at H
        have c4b0 : decide (x4_1 < (l0.length : Int)) = false := decide_eq_false c4
        clear c4
        obtain rfl := Option.some.inj H
        go_wp2
        go_ret
        exact ⟨_, by first | rfl | (simp [errW_none, errW_some] <;> rfl) | (simp [*, errW_none, errW_some] <;> rfl), by (with_reducible repeat (first | apply Kd.R_alloc | apply Kd.R_drewN | apply Kd.R_drew)); exact HO_3.out, by repeat (first | (with_reducible first | exact HB.out | apply below_alloc | apply pw_below_drewN | apply below_drew1) | exact HB.out)⟩

end Go.Proofs.Ytegefemkmdlmaaa.P
