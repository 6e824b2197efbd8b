-- Printed by a program of this session (hand.py) out of the translation. Lean checks it.
import Derived.Test.YtegefemkmdlmaaaF0
import Derived.Test.YtegefemkmdlmaaaF70
namespace Go.Proofs.Ytegefemkmdlmaaa.P
open Go.RowKit Go.Proofs.YtegefemkmdlmaaaW.PrintWords Go.Proofs.YtegefemkmdlmaaaW.PrintLast Go.Proofs.YtegefemkmdlmaaaW.PrintMore
attribute [local go_sem] max2_int min2_int max_two min_two max_three min_three max_four min_four   -- for this text's walks alone
set_option linter.unusedVariables false
set_option linter.unusedSimpArgs false

/-! ### dasdref01_ReadInt: function 72 -/
def dasdref01_ReadInt.f (k : Nat) (a0_0 : ByteArray) (a0_1 : Int) : Option (Int × ByteArray × Int) := (dasdref01_ReadNumber.f k a0_0 a0_1).bind fun bt695 => (if (Int.tmod bt695.1 2) = 1 then (some (wrap64 ((wrap64 (-(wrap64 (IntKind.u64.wrap (Int.tdiv bt695.1 2))))) - 1), bt695.2.1, bt695.2.2)) else (some (wrap64 (IntKind.u64.wrap (Int.tdiv bt695.1 2)), bt695.2.1, bt695.2.2)))
theorem dasdref01_ReadInt.mono : ∀ a0 a1 k, LeO (dasdref01_ReadInt.f k a0 a1) (dasdref01_ReadInt.f (k + 1) a0 a1) := by
  intro a0 a1 k
  unfold dasdref01_ReadInt.f
  repeat' first
      | (with_reducible exact dasdref01_ReadNumber.mono _ _ _)
      | (with_reducible exact LeO.refl _)
      | (with_reducible exact LeO.none _)
      | (with_reducible refine LeO.ite ?_ ?_)
      | (with_reducible refine LeO.bind ?_ (fun _ => ?_))
      | exact dasdref01_ReadNumber.mono _ _ _
      | exact LeO.none _
      | refine LeO.ite ?_ ?_
      | refine LeO.bind ?_ (fun _ => ?_)
def dasdref01_ReadInt.T3 : Bool × List (List Nat × List Nat) := (true, [([], []), ([0], [0]), ([1], [1]), ([2], [2]), ([3], [3]), ([], []), ([4, 0, 1, 2, 3, 4], [4]), ([5, 6, 0, 1, 2, 3, 4, 5, 6], [5])])
def dasdref01_ReadInt.B3 : List Nat := [0, 1, 3, 7, 15, 0, 31, 127]
theorem dasdref01_ReadInt.tab3 : rtab .any (opsOf Try.f72 3) = dasdref01_ReadInt.T3 := by kernel_rfl
theorem dasdref01_ReadInt.bits3 : waitsOk dasdref01_ReadInt.T3.2 dasdref01_ReadInt.B3 = true := by kernel_rfl
set_option maxHeartbeats 8000000 in
set_option maxRecDepth 100000 in
theorem dasdref01_ReadInt.calls (k : Nat) (a0_0 : ByteArray) (a0_1 : Int) (r1 : Int) (r2 : ByteArray) (r3 : Int) (w : World) (h : dasdref01_ReadInt.f k a0_0 a0_1 = some (r1, r2, r3)) :
    Calls Try.prog 72 #[.agg #[.string a0_0, .int .i64 a0_1]] w fun e w' => e = .returned (.tuple #[.int .i64 r1, .agg #[.string r2, .int .i64 r3]]) ∧ Below w.heap.size w w' := by
  have hu69 := Try.underlying69
  have HB := Aside0.mk (Below.refl w.heap.size w)
  have H : ((dasdref01_ReadNumber.f k a0_0 a0_1).bind fun bt695 => (if (Int.tmod bt695.1 2) = 1 then (some (wrap64 ((wrap64 (-(wrap64 (IntKind.u64.wrap (Int.tdiv bt695.1 2))))) - 1), bt695.2.1, bt695.2.2)) else (some (wrap64 (IntKind.u64.wrap (Int.tdiv bt695.1 2)), bt695.2.1, bt695.2.2)))) = some (r1, r2, r3) := h
  clear h
  replace H := Option.bind_eq_some_iff.mp H
  obtain ⟨⟨t695, t696, t697⟩, A20, H⟩ := H
  replace H : (if (Int.tmod t695 2) = 1 then (some (wrap64 ((wrap64 (-(wrap64 (IntKind.u64.wrap (Int.tdiv t695 2))))) - 1), t696, t697)) else (some (wrap64 (IntKind.u64.wrap (Int.tdiv t695 2)), t696, t697))) = some (r1, r2, r3) := H
  have A2 := Aside0.mk A20
  clear A20
  by_cases c3 : (Int.tmod t695 2) = 1
  · rw [if_pos c3] at H
    have c3b0 : ((Int.tmod t695 2) == 1) = true := beq_iff_eq.mpr c3
    have c3b1 : ((Int.tmod t695 2) != 1) = false := bne_eq_false_iff_eq.mpr c3
    clear c3
    simp only [Option.some.injEq, Prod.mk.injEq] at H
    obtain ⟨rfl, rfl, rfl⟩ := H
    go_enter Try.func72, Try.ntmps72
    try go_wp2_with (first | ((with_reducible refine gate_dst (N := 1) rfl ?_); refine box_event ?hg (N := 1) ?hd (cs := #[.string a0_0, .int .i64 a0_1]) (t := 69) ?hr ?_; (case hd => rfl); (case hg => rfl); (case hr => first | (go_simp; done) | (go_simp; rfl)); intro gb693 hg w4 hbox hb; have n0_ := Aside0.mk (below_step (by repeat (first | (with_reducible first | exact HB.out | apply below_alloc | apply pw_below_drewN | apply below_drew1) | exact HB.out)) hb); have n1_ := Aside0.mk (hbox); have n2_ := Aside0.mk ((by rw [hg]; exact (below_size (by repeat (first | (with_reducible first | exact HB.out | apply below_alloc | apply pw_below_drewN | apply below_drew1) | exact HB.out))) : w.heap.size ≤ gb693)); have n3_ := Aside0.mk ((by rw [hg]; exact (below_size (by repeat (first | (with_reducible first | exact HB.out | apply below_alloc | apply pw_below_drewN | apply below_drew1) | exact HB.out))) : w.heap.size ≤ gb693)); clear HB; have HB := n0_; have BK693 := n1_; have GW693 := n2_; have GE693 := n3_; clear n0_ n1_ n2_ n3_; clear hb hbox hg) | ((with_reducible refine gate_dst (N := 3) rfl ?_); refine box_event ?hg (N := 3) ?hd (cs := #[.string (⟨#[]⟩ : ByteArray), .int .i64 0]) (t := 69) ?hr ?_; (case hd => rfl); (case hg => rfl); (case hr => first | (go_simp; done) | (go_simp; rfl)); intro gb694 hg w5 hbox hb; have n0_ := Aside0.mk (blk_below (g := gb693) (o := .cells #[.string a0_0, .int .i64 a0_1] 69 (0, 0)) (by (with_reducible repeat (first | refine blk_drewN ?_ _ | refine blk_drew ?_ | refine blk_alloc ?_ _)); exact BK693.out) hb); have n1_ := Aside0.mk (below_step (by repeat (first | (with_reducible first | exact HB.out | apply below_alloc | apply pw_below_drewN | apply below_drew1 | refine below_set ?_ GE693.out) | exact HB.out)) hb); have n2_ := Aside0.mk (hbox); have n3_ := Aside0.mk ((by rw [hg]; exact (below_size (by repeat (first | (with_reducible first | exact HB.out | apply below_alloc | apply pw_below_drewN | apply below_drew1 | refine below_set ?_ GE693.out) | exact HB.out))) : w.heap.size ≤ gb694)); have n4_ := Aside0.mk ((by rw [hg]; exact (below_size (by repeat (first | (with_reducible first | exact HB.out | apply below_alloc | apply pw_below_drewN | apply below_drew1 | refine below_set ?_ GE693.out) | exact HB.out))) : w.heap.size ≤ gb694)); have n5_ := Aside0.mk ((by rw [hg]; exact Nat.ne_of_lt (blk_lt (g := gb693) (o := .cells #[.string a0_0, .int .i64 a0_1] 69 (0, 0)) (by (with_reducible repeat (first | refine blk_drewN ?_ _ | refine blk_drew ?_ | refine blk_alloc ?_ _)); exact BK693.out)) : gb693 ≠ gb694)); have n6_ := Aside0.mk ((by rw [hg]; exact Nat.ne_of_gt (blk_lt (g := gb693) (o := .cells #[.string a0_0, .int .i64 a0_1] 69 (0, 0)) (by (with_reducible repeat (first | refine blk_drewN ?_ _ | refine blk_drew ?_ | refine blk_alloc ?_ _)); exact BK693.out)) : gb694 ≠ gb693)); clear BK693; clear HB; have BK693 := n0_; have HB := n1_; have BK694 := n2_; have GW694 := n3_; have GE694 := n4_; have NB693_694 := n5_; have NB694_693 := n6_; clear n0_ n1_ n2_ n3_ n4_ n5_ n6_; clear hb hbox hg; have hnb6 := NB693_694.out; have hnc6 := NB694_693.out; have hcz7_0 : w5.cell? ⟨gb693, 0, none⟩ = some (.string a0_0) := (blk_cell BK693.out 0).trans rfl; have hcz7_1 : w5.cell? ⟨gb693, 1, none⟩ = some (.int .i64 a0_1) := (blk_cell BK693.out 1).trans rfl; have hfz7_0 := blk_frozen BK693.out 0; have hfz7_1 := blk_frozen BK693.out 1) | ((with_reducible refine gate_callee (f := 70) rfl ?_); refine goesL_ (some 8) rfl rfl Try.func70 (by kernel_rfl) rfl #[.agg #[.string a0_0, .int .i64 a0_1]] rfl (by (try simp only [List.map_toArray, List.map_cons, List.map_nil]); first | done | rfl | (simp only [List.length_drop, List.length_take]; rfl)) ?_; (with_reducible refine (dasdref01_ReadNumber.calls k a0_0 a0_1 t695 t696 t697 _ A2.out).mono ?_); rintro e w8 ⟨rfl, hb⟩; refine ⟨_, rfl, ?_⟩; have n0_ := Aside0.mk (blk_below (g := gb693) (o := .cells #[.string a0_0, .int .i64 a0_1] 69 (0, 0)) (by (with_reducible repeat (first | refine blk_drewN ?_ _ | refine blk_drew ?_ | refine blk_alloc ?_ _)); exact BK693.out) hb); have n1_ := Aside0.mk (blk_below (g := gb694) (o := .cells #[.string (⟨#[]⟩ : ByteArray), .int .i64 0] 69 (0, 0)) (by (with_reducible repeat (first | refine blk_drewN ?_ _ | refine blk_drew ?_ | refine blk_alloc ?_ _)); exact BK694.out) hb); have n2_ := Aside0.mk (below_step (by repeat (first | (with_reducible first | exact HB.out | apply below_alloc | apply pw_below_drewN | apply below_drew1 | refine below_set ?_ GE693.out | refine below_set ?_ GE694.out) | exact HB.out)) hb); clear BK693; clear BK694; clear HB; have BK693 := n0_; have BK694 := n1_; have HB := n2_; clear n0_ n1_ n2_; (try clear hb); (try clear hb2); (try clear hk); (try clear hi)) | ((with_reducible refine gate_dst (N := 5) rfl ?_); refine box_event ?hg (N := 5) ?hd (cs := #[.string (⟨#[]⟩ : ByteArray), .int .i64 0]) (t := 69) ?hr ?_; (case hd => rfl); (case hg => rfl); (case hr => first | (go_simp; done) | (go_simp; rfl)); intro gb698 hg w9 hbox hb; have n0_ := Aside0.mk (blk_below (g := gb693) (o := .cells #[.string a0_0, .int .i64 a0_1] 69 (0, 0)) (by (with_reducible repeat (first | refine blk_drewN ?_ _ | refine blk_drew ?_ | refine blk_alloc ?_ _)); exact BK693.out) hb); have n1_ := Aside0.mk (blk_below (g := gb694) (o := .cells #[.string (⟨#[]⟩ : ByteArray), .int .i64 0] 69 (0, 0)) (by (with_reducible repeat (first | refine blk_drewN ?_ _ | refine blk_drew ?_ | refine blk_alloc ?_ _)); exact BK694.out) hb); have n2_ := Aside0.mk (below_step (by repeat (first | (with_reducible first | exact HB.out | apply below_alloc | apply pw_below_drewN | apply below_drew1 | refine below_set ?_ GE693.out | refine below_set ?_ GE694.out) | exact HB.out)) hb); have n3_ := Aside0.mk (hbox); have n4_ := Aside0.mk ((by rw [hg]; exact (below_size (by repeat (first | (with_reducible first | exact HB.out | apply below_alloc | apply pw_below_drewN | apply below_drew1 | refine below_set ?_ GE693.out | refine below_set ?_ GE694.out) | exact HB.out))) : w.heap.size ≤ gb698)); have n5_ := Aside0.mk ((by rw [hg]; exact (below_size (by repeat (first | (with_reducible first | exact HB.out | apply below_alloc | apply pw_below_drewN | apply below_drew1 | refine below_set ?_ GE693.out | refine below_set ?_ GE694.out) | exact HB.out))) : w.heap.size ≤ gb698)); have n6_ := Aside0.mk ((by rw [hg]; exact Nat.ne_of_lt (blk_lt (g := gb693) (o := .cells #[.string a0_0, .int .i64 a0_1] 69 (0, 0)) (by (with_reducible repeat (first | refine blk_drewN ?_ _ | refine blk_drew ?_ | refine blk_alloc ?_ _)); exact BK693.out)) : gb693 ≠ gb698)); have n7_ := Aside0.mk ((by rw [hg]; exact Nat.ne_of_gt (blk_lt (g := gb693) (o := .cells #[.string a0_0, .int .i64 a0_1] 69 (0, 0)) (by (with_reducible repeat (first | refine blk_drewN ?_ _ | refine blk_drew ?_ | refine blk_alloc ?_ _)); exact BK693.out)) : gb698 ≠ gb693)); have n8_ := Aside0.mk ((by rw [hg]; exact Nat.ne_of_lt (blk_lt (g := gb694) (o := .cells #[.string (⟨#[]⟩ : ByteArray), .int .i64 0] 69 (0, 0)) (by (with_reducible repeat (first | refine blk_drewN ?_ _ | refine blk_drew ?_ | refine blk_alloc ?_ _)); exact BK694.out)) : gb694 ≠ gb698)); have n9_ := Aside0.mk ((by rw [hg]; exact Nat.ne_of_gt (blk_lt (g := gb694) (o := .cells #[.string (⟨#[]⟩ : ByteArray), .int .i64 0] 69 (0, 0)) (by (with_reducible repeat (first | refine blk_drewN ?_ _ | refine blk_drew ?_ | refine blk_alloc ?_ _)); exact BK694.out)) : gb698 ≠ gb694)); clear BK693; clear BK694; clear HB; have BK693 := n0_; have BK694 := n1_; have HB := n2_; have BK698 := n3_; have GW698 := n4_; have GE698 := n5_; have NB693_698 := n6_; have NB698_693 := n7_; have NB694_698 := n8_; have NB698_694 := n9_; clear n0_ n1_ n2_ n3_ n4_ n5_ n6_ n7_ n8_ n9_; clear hb hbox hg; have hnb10 := NB698_693.out; have hnc10 := NB693_698.out; have hnb11 := NB698_694.out; have hnc11 := NB694_698.out; have hcz12_0 : w9.cell? ⟨gb698, 0, none⟩ = some (.string (⟨#[]⟩ : ByteArray)) := (blk_cell BK698.out 0).trans rfl; have hcz12_1 : w9.cell? ⟨gb698, 1, none⟩ = some (.int .i64 0) := (blk_cell BK698.out 1).trans rfl; have hfz12_0 := blk_frozen BK698.out 0; have hfz12_1 := blk_frozen BK698.out 1))
    have n0_ : Aside0 (((w9.setCell ⟨gb698, 0, none⟩ (.string t696)).setCell ⟨gb698, 1, none⟩ (.int .i64 t697)).heap[gb693]? = some (.cells #[.string a0_0, .int .i64 a0_1] 69 (0, 0))) := ⟨by (with_reducible repeat (first | refine blk_drewN ?_ _ | refine blk_drew ?_ | refine blk_alloc ?_ _)); refine blk_far ?_ NB693_698.out _; (with_reducible repeat (first | refine blk_drewN ?_ _ | refine blk_drew ?_ | refine blk_alloc ?_ _)); refine blk_far ?_ NB693_698.out _; (with_reducible repeat (first | refine blk_drewN ?_ _ | refine blk_drew ?_ | refine blk_alloc ?_ _)); exact BK693.out⟩
    have n1_ : Aside0 (((w9.setCell ⟨gb698, 0, none⟩ (.string t696)).setCell ⟨gb698, 1, none⟩ (.int .i64 t697)).heap[gb694]? = some (.cells #[.string (⟨#[]⟩ : ByteArray), .int .i64 0] 69 (0, 0))) := ⟨by (with_reducible repeat (first | refine blk_drewN ?_ _ | refine blk_drew ?_ | refine blk_alloc ?_ _)); refine blk_far ?_ NB694_698.out _; (with_reducible repeat (first | refine blk_drewN ?_ _ | refine blk_drew ?_ | refine blk_alloc ?_ _)); refine blk_far ?_ NB694_698.out _; (with_reducible repeat (first | refine blk_drewN ?_ _ | refine blk_drew ?_ | refine blk_alloc ?_ _)); exact BK694.out⟩
    have n2_ : Aside0 (((w9.setCell ⟨gb698, 0, none⟩ (.string t696)).setCell ⟨gb698, 1, none⟩ (.int .i64 t697)).heap[gb698]? = some (.cells #[.string t696, .int .i64 t697] 69 (0, 0))) := ⟨by (with_reducible repeat (first | refine blk_drewN ?_ _ | refine blk_drew ?_ | refine blk_alloc ?_ _)); refine blk_put (cs := #[.string t696, .int .i64 0]) ?_ 1 _ rfl; (with_reducible repeat (first | refine blk_drewN ?_ _ | refine blk_drew ?_ | refine blk_alloc ?_ _)); refine blk_put (cs := #[.string (⟨#[]⟩ : ByteArray), .int .i64 0]) ?_ 0 _ rfl; (with_reducible repeat (first | refine blk_drewN ?_ _ | refine blk_drew ?_ | refine blk_alloc ?_ _)); exact BK698.out⟩
    have n3_ : Aside0 (Below w.heap.size w ((w9.setCell ⟨gb698, 0, none⟩ (.string t696)).setCell ⟨gb698, 1, none⟩ (.int .i64 t697))) := ⟨by repeat (first | (with_reducible first | exact HB.out | apply below_alloc | apply pw_below_drewN | apply below_drew1 | refine below_set ?_ GE693.out | refine below_set ?_ GE694.out | refine below_set ?_ GE698.out) | exact HB.out)⟩
    (try clear BK693)
    (try clear BK694)
    (try clear BK698)
    (try clear HB)
    generalize ((w9.setCell ⟨gb698, 0, none⟩ (.string t696)).setCell ⟨gb698, 1, none⟩ (.int .i64 t697)) = w13 at n0_ n1_ n2_ n3_ ⊢
    have BK693 := n0_
    have BK694 := n1_
    have BK698 := n2_
    have HB := n3_
    clear n0_ n1_ n2_ n3_
    have n0_ := Aside0.mk (blk_drew BK693.out)
    have n1_ := Aside0.mk (blk_drew BK694.out)
    have n2_ := Aside0.mk (blk_drew BK698.out)
    have n3_ := Aside0.mk (below_drew1 HB.out)
    clear BK693
    clear BK694
    clear BK698
    clear HB
    have BK693 := n0_
    have BK694 := n1_
    have BK698 := n2_
    have HB := n3_
    clear n0_ n1_ n2_ n3_
    refine start_ (n := 8) (S := fun w' => w'.cell? ⟨gb698, 0, none⟩ = some (.string t696) ∧ w'.cell? ⟨gb698, 1, none⟩ = some (.int .i64 t697)) (ds := []) #[false, false, false, false, false, false, false, false] (by kernel_rfl) rfl rfl ⟨(blk_cell BK698.out 0).trans rfl, (blk_cell BK698.out 1).trans rfl⟩ (fun hHeld => ?_); refine with_tabW dasdref01_ReadInt.tab3 dasdref01_ReadInt.bits3 (fun HT_ HW_ => ?_)
    generalize w13.drew = w14 at BK693 BK694 BK698 HB hHeld ⊢
    refine pure_ (i := 0) (N := some 14) (v := ?_) (a' := ?_) #[true, false, false, false, false, false, false, false] rfl rfl (any_of HT_.out (by kernel_rfl)) (fun _ _ _ h => h) (Or.inl ⟨by rfl, ?_⟩) ?_ ?_
    rotate_left
    · intro w'
      go_simp
      with_reducible rfl
    rotate_left
    · simp only [Act.put, List.setIfInBounds_toArray, List.set_cons_zero, List.set_cons_succ, i64_w, i32_w]
      rfl
    refine pure_ (i := 1) (N := some 15) (v := ?_) (a' := ?_) #[true, true, false, false, false, false, false, false] rfl rfl (any_of HT_.out (by kernel_rfl)) (fun _ _ _ h => h) (Or.inl ⟨by rfl, ?_⟩) ?_ ?_
    rotate_left
    · intro w'
      go_simp
      with_reducible rfl
    rotate_left
    · simp only [Act.put, List.setIfInBounds_toArray, List.set_cons_zero, List.set_cons_succ, i64_w, i32_w]
      rfl
    refine pure_ (i := 2) (N := some 16) (v := ?_) (a' := ?_) #[true, true, true, false, false, false, false, false] rfl rfl (any_of HT_.out (by kernel_rfl)) (fun _ _ _ h => h) (Or.inl ⟨by rfl, ?_⟩) ?_ ?_
    rotate_left
    · intro w'
      go_simp
      with_reducible rfl
    rotate_left
    · simp only [Act.put, List.setIfInBounds_toArray, List.set_cons_zero, List.set_cons_succ, i64_w, i32_w]
      rfl
    refine pure_ (i := 3) (N := some 17) (v := ?_) (a' := ?_) #[true, true, true, true, false, false, false, false] rfl rfl (any_of HT_.out (by kernel_rfl)) (fun _ _ _ h => h) (Or.inl ⟨by rfl, ?_⟩) ?_ ?_
    rotate_left
    · intro w'
      go_simp
      with_reducible rfl
    rotate_left
    · simp only [Act.put, List.setIfInBounds_toArray, List.set_cons_zero, List.set_cons_succ, i64_w, i32_w]
      rfl
    refine pure_ (i := 4) (N := some 18) (v := ?_) (a' := ?_) #[true, true, true, true, true, false, false, false] rfl rfl (any_of HT_.out (by kernel_rfl)) (fun _ _ _ h => h) (Or.inl ⟨by rfl, ?_⟩) ?_ ?_
    rotate_left
    · intro w'
      go_simp
      with_reducible rfl
    rotate_left
    · simp only [Act.put, List.setIfInBounds_toArray, List.set_cons_zero, List.set_cons_succ, i64_w, i32_w]
      rfl
    refine pure_ (i := 6) (N := some 2) (v := ?_) (a' := ?_) #[true, true, true, true, true, false, true, false] rfl rfl (any_of HT_.out (by kernel_rfl)) (fun _ _ _ h => h) (Or.inl ⟨by rfl, ?_⟩) ?_ ?_
    rotate_left
    · intro w'
      go_simp
      with_reducible rfl
    rotate_left
    · simp only [Act.put, List.setIfInBounds_toArray, List.set_cons_zero, List.set_cons_succ, i64_w, i32_w]
      rfl
    refine take_ (i := 5) (N := some 19) (v := ?_) (a' := ?_) #[true, true, true, true, true, true, true, false] rfl rfl (take_ofW HT_.out HW_.out (by kernel_rfl)) (fun _ _ _ h => h) (Or.inl ⟨by rfl, ?_⟩) hHeld ?_ ?_
    rotate_left
    · rintro w' ⟨s0, s1⟩
      go_simp
      with_reducible rfl
    rotate_left
    · simp only [Act.put, List.setIfInBounds_toArray, List.set_cons_zero, List.set_cons_succ, i64_w, i32_w]
      rfl
    refine one_ (i := 7) (N := none) #[true, true, true, true, true, true, true, true] rfl rfl (one_of HT_.out (by kernel_rfl)) (by decide) (fun K hK => ?_)
    have hs15 : w14.cell? ⟨gb694, 0, none⟩ = some (.string (⟨#[]⟩ : ByteArray)) := (blk_cell BK694.out 0).trans rfl
    have hfs15 := blk_frozen BK694.out 0
    have hns15_0 := NB693_694.out
    have hns15_2 := NB698_694.out
    have hms15_0 := NB694_693.out
    have hms15_2 := NB694_698.out
    have hs16 : w14.cell? ⟨gb694, 1, none⟩ = some (.int .i64 0) := (blk_cell BK694.out 1).trans rfl
    have hfs16 := blk_frozen BK694.out 1
    have hns16_0 := NB693_694.out
    have hns16_2 := NB698_694.out
    have hms16_0 := NB694_693.out
    have hms16_2 := NB694_698.out
    refine skip_ (w1 := ?_) (by rfl) rfl ?_ ?_
    rotate_left
    · go_simp
      rfl
    refine hK.out _ _ ⟨((cell_far (p := ⟨gb694, _, none⟩) NB698_694.out _).trans (((cell_far (p := ⟨gb694, _, none⟩) NB698_694.out _).trans (hHeld.1)))), ((cell_far (p := ⟨gb694, _, none⟩) NB698_694.out _).trans (((cell_far (p := ⟨gb694, _, none⟩) NB698_694.out _).trans (hHeld.2))))⟩ (fun hHeld => ?_)
    clear hK K
    refine done_ (done_of HT_.out (by kernel_rfl)) ?_
    try go_wp2
    refine bodyPost_ret (results_tc rfl _ _ gb694 69 #[.string t696, .int .i64 t697] (0, 0) _ rfl (by (with_reducible repeat (first | refine blk_drewN ?_ _ | refine blk_drew ?_ | refine blk_alloc ?_ _)); refine blk_put (cs := #[.string t696, .int .i64 0]) ?_ 1 _ rfl; (with_reducible repeat (first | refine blk_drewN ?_ _ | refine blk_drew ?_ | refine blk_alloc ?_ _)); refine blk_put (cs := #[.string (⟨#[]⟩ : ByteArray), .int .i64 0]) ?_ 0 _ rfl; (with_reducible repeat (first | refine blk_drewN ?_ _ | refine blk_drew ?_ | refine blk_alloc ?_ _)); exact BK694.out) Try.underlying69 rfl (by kernel_rfl)) rfl ?_
    exact ⟨by first | rfl | (simp [errW_none, errW_some] <;> rfl) | (simp [*, errW_none, errW_some] <;> rfl), by repeat (first | (with_reducible first | exact HB.out | apply below_alloc | apply pw_below_drewN | apply below_drew1 | refine below_set ?_ GE693.out | refine below_set ?_ GE694.out | refine below_set ?_ GE698.out) | exact HB.out)⟩
  · rw [if_neg c3] at H
    have c3b0 : ((Int.tmod t695 2) == 1) = false := beq_eq_false_iff_ne.mpr c3
    have c3b1 : ((Int.tmod t695 2) != 1) = true := bne_iff_ne.mpr c3
    simp only [Option.some.injEq, Prod.mk.injEq] at H
    obtain ⟨rfl, rfl, rfl⟩ := H
    go_enter Try.func72, Try.ntmps72
    try go_wp2_with (first | ((with_reducible refine gate_dst (N := 1) rfl ?_); refine box_event ?hg (N := 1) ?hd (cs := #[.string a0_0, .int .i64 a0_1]) (t := 69) ?hr ?_; (case hd => rfl); (case hg => rfl); (case hr => first | (go_simp; done) | (go_simp; rfl)); intro gb693 hg w17 hbox hb; have n0_ := Aside0.mk (below_step (by repeat (first | (with_reducible first | exact HB.out | apply below_alloc | apply pw_below_drewN | apply below_drew1) | exact HB.out)) hb); have n1_ := Aside0.mk (hbox); have n2_ := Aside0.mk ((by rw [hg]; exact (below_size (by repeat (first | (with_reducible first | exact HB.out | apply below_alloc | apply pw_below_drewN | apply below_drew1) | exact HB.out))) : w.heap.size ≤ gb693)); have n3_ := Aside0.mk ((by rw [hg]; exact (below_size (by repeat (first | (with_reducible first | exact HB.out | apply below_alloc | apply pw_below_drewN | apply below_drew1) | exact HB.out))) : w.heap.size ≤ gb693)); clear HB; have HB := n0_; have BK693 := n1_; have GW693 := n2_; have GE693 := n3_; clear n0_ n1_ n2_ n3_; clear hb hbox hg) | ((with_reducible refine gate_dst (N := 3) rfl ?_); refine box_event ?hg (N := 3) ?hd (cs := #[.string (⟨#[]⟩ : ByteArray), .int .i64 0]) (t := 69) ?hr ?_; (case hd => rfl); (case hg => rfl); (case hr => first | (go_simp; done) | (go_simp; rfl)); intro gb694 hg w18 hbox hb; have n0_ := Aside0.mk (blk_below (g := gb693) (o := .cells #[.string a0_0, .int .i64 a0_1] 69 (0, 0)) (by (with_reducible repeat (first | refine blk_drewN ?_ _ | refine blk_drew ?_ | refine blk_alloc ?_ _)); exact BK693.out) hb); have n1_ := Aside0.mk (below_step (by repeat (first | (with_reducible first | exact HB.out | apply below_alloc | apply pw_below_drewN | apply below_drew1 | refine below_set ?_ GE693.out) | exact HB.out)) hb); have n2_ := Aside0.mk (hbox); have n3_ := Aside0.mk ((by rw [hg]; exact (below_size (by repeat (first | (with_reducible first | exact HB.out | apply below_alloc | apply pw_below_drewN | apply below_drew1 | refine below_set ?_ GE693.out) | exact HB.out))) : w.heap.size ≤ gb694)); have n4_ := Aside0.mk ((by rw [hg]; exact (below_size (by repeat (first | (with_reducible first | exact HB.out | apply below_alloc | apply pw_below_drewN | apply below_drew1 | refine below_set ?_ GE693.out) | exact HB.out))) : w.heap.size ≤ gb694)); have n5_ := Aside0.mk ((by rw [hg]; exact Nat.ne_of_lt (blk_lt (g := gb693) (o := .cells #[.string a0_0, .int .i64 a0_1] 69 (0, 0)) (by (with_reducible repeat (first | refine blk_drewN ?_ _ | refine blk_drew ?_ | refine blk_alloc ?_ _)); exact BK693.out)) : gb693 ≠ gb694)); have n6_ := Aside0.mk ((by rw [hg]; exact Nat.ne_of_gt (blk_lt (g := gb693) (o := .cells #[.string a0_0, .int .i64 a0_1] 69 (0, 0)) (by (with_reducible repeat (first | refine blk_drewN ?_ _ | refine blk_drew ?_ | refine blk_alloc ?_ _)); exact BK693.out)) : gb694 ≠ gb693)); clear BK693; clear HB; have BK693 := n0_; have HB := n1_; have BK694 := n2_; have GW694 := n3_; have GE694 := n4_; have NB693_694 := n5_; have NB694_693 := n6_; clear n0_ n1_ n2_ n3_ n4_ n5_ n6_; clear hb hbox hg; have hnb19 := NB693_694.out; have hnc19 := NB694_693.out; have hcz20_0 : w18.cell? ⟨gb693, 0, none⟩ = some (.string a0_0) := (blk_cell BK693.out 0).trans rfl; have hcz20_1 : w18.cell? ⟨gb693, 1, none⟩ = some (.int .i64 a0_1) := (blk_cell BK693.out 1).trans rfl; have hfz20_0 := blk_frozen BK693.out 0; have hfz20_1 := blk_frozen BK693.out 1) | ((with_reducible refine gate_callee (f := 70) rfl ?_); refine goesL_ (some 8) rfl rfl Try.func70 (by kernel_rfl) rfl #[.agg #[.string a0_0, .int .i64 a0_1]] rfl (by (try simp only [List.map_toArray, List.map_cons, List.map_nil]); first | done | rfl | (simp only [List.length_drop, List.length_take]; rfl)) ?_; (with_reducible refine (dasdref01_ReadNumber.calls k a0_0 a0_1 t695 t696 t697 _ A2.out).mono ?_); rintro e w21 ⟨rfl, hb⟩; refine ⟨_, rfl, ?_⟩; have n0_ := Aside0.mk (blk_below (g := gb693) (o := .cells #[.string a0_0, .int .i64 a0_1] 69 (0, 0)) (by (with_reducible repeat (first | refine blk_drewN ?_ _ | refine blk_drew ?_ | refine blk_alloc ?_ _)); exact BK693.out) hb); have n1_ := Aside0.mk (blk_below (g := gb694) (o := .cells #[.string (⟨#[]⟩ : ByteArray), .int .i64 0] 69 (0, 0)) (by (with_reducible repeat (first | refine blk_drewN ?_ _ | refine blk_drew ?_ | refine blk_alloc ?_ _)); exact BK694.out) hb); have n2_ := Aside0.mk (below_step (by repeat (first | (with_reducible first | exact HB.out | apply below_alloc | apply pw_below_drewN | apply below_drew1 | refine below_set ?_ GE693.out | refine below_set ?_ GE694.out) | exact HB.out)) hb); clear BK693; clear BK694; clear HB; have BK693 := n0_; have BK694 := n1_; have HB := n2_; clear n0_ n1_ n2_; (try clear hb); (try clear hb2); (try clear hk); (try clear hi)) | ((with_reducible refine gate_dst (N := 5) rfl ?_); refine box_event ?hg (N := 5) ?hd (cs := #[.string (⟨#[]⟩ : ByteArray), .int .i64 0]) (t := 69) ?hr ?_; (case hd => rfl); (case hg => rfl); (case hr => first | (go_simp; done) | (go_simp; rfl)); intro gb698 hg w22 hbox hb; have n0_ := Aside0.mk (blk_below (g := gb693) (o := .cells #[.string a0_0, .int .i64 a0_1] 69 (0, 0)) (by (with_reducible repeat (first | refine blk_drewN ?_ _ | refine blk_drew ?_ | refine blk_alloc ?_ _)); exact BK693.out) hb); have n1_ := Aside0.mk (blk_below (g := gb694) (o := .cells #[.string (⟨#[]⟩ : ByteArray), .int .i64 0] 69 (0, 0)) (by (with_reducible repeat (first | refine blk_drewN ?_ _ | refine blk_drew ?_ | refine blk_alloc ?_ _)); exact BK694.out) hb); have n2_ := Aside0.mk (below_step (by repeat (first | (with_reducible first | exact HB.out | apply below_alloc | apply pw_below_drewN | apply below_drew1 | refine below_set ?_ GE693.out | refine below_set ?_ GE694.out) | exact HB.out)) hb); have n3_ := Aside0.mk (hbox); have n4_ := Aside0.mk ((by rw [hg]; exact (below_size (by repeat (first | (with_reducible first | exact HB.out | apply below_alloc | apply pw_below_drewN | apply below_drew1 | refine below_set ?_ GE693.out | refine below_set ?_ GE694.out) | exact HB.out))) : w.heap.size ≤ gb698)); have n5_ := Aside0.mk ((by rw [hg]; exact (below_size (by repeat (first | (with_reducible first | exact HB.out | apply below_alloc | apply pw_below_drewN | apply below_drew1 | refine below_set ?_ GE693.out | refine below_set ?_ GE694.out) | exact HB.out))) : w.heap.size ≤ gb698)); have n6_ := Aside0.mk ((by rw [hg]; exact Nat.ne_of_lt (blk_lt (g := gb693) (o := .cells #[.string a0_0, .int .i64 a0_1] 69 (0, 0)) (by (with_reducible repeat (first | refine blk_drewN ?_ _ | refine blk_drew ?_ | refine blk_alloc ?_ _)); exact BK693.out)) : gb693 ≠ gb698)); have n7_ := Aside0.mk ((by rw [hg]; exact Nat.ne_of_gt (blk_lt (g := gb693) (o := .cells #[.string a0_0, .int .i64 a0_1] 69 (0, 0)) (by (with_reducible repeat (first | refine blk_drewN ?_ _ | refine blk_drew ?_ | refine blk_alloc ?_ _)); exact BK693.out)) : gb698 ≠ gb693)); have n8_ := Aside0.mk ((by rw [hg]; exact Nat.ne_of_lt (blk_lt (g := gb694) (o := .cells #[.string (⟨#[]⟩ : ByteArray), .int .i64 0] 69 (0, 0)) (by (with_reducible repeat (first | refine blk_drewN ?_ _ | refine blk_drew ?_ | refine blk_alloc ?_ _)); exact BK694.out)) : gb694 ≠ gb698)); have n9_ := Aside0.mk ((by rw [hg]; exact Nat.ne_of_gt (blk_lt (g := gb694) (o := .cells #[.string (⟨#[]⟩ : ByteArray), .int .i64 0] 69 (0, 0)) (by (with_reducible repeat (first | refine blk_drewN ?_ _ | refine blk_drew ?_ | refine blk_alloc ?_ _)); exact BK694.out)) : gb698 ≠ gb694)); clear BK693; clear BK694; clear HB; have BK693 := n0_; have BK694 := n1_; have HB := n2_; have BK698 := n3_; have GW698 := n4_; have GE698 := n5_; have NB693_698 := n6_; have NB698_693 := n7_; have NB694_698 := n8_; have NB698_694 := n9_; clear n0_ n1_ n2_ n3_ n4_ n5_ n6_ n7_ n8_ n9_; clear hb hbox hg; have hnb23 := NB698_693.out; have hnc23 := NB693_698.out; have hnb24 := NB698_694.out; have hnc24 := NB694_698.out; have hcz25_0 : w22.cell? ⟨gb698, 0, none⟩ = some (.string (⟨#[]⟩ : ByteArray)) := (blk_cell BK698.out 0).trans rfl; have hcz25_1 : w22.cell? ⟨gb698, 1, none⟩ = some (.int .i64 0) := (blk_cell BK698.out 1).trans rfl; have hfz25_0 := blk_frozen BK698.out 0; have hfz25_1 := blk_frozen BK698.out 1))
    have n0_ : Aside0 (((w22.setCell ⟨gb698, 0, none⟩ (.string t696)).setCell ⟨gb698, 1, none⟩ (.int .i64 t697)).heap[gb693]? = some (.cells #[.string a0_0, .int .i64 a0_1] 69 (0, 0))) := ⟨by (with_reducible repeat (first | refine blk_drewN ?_ _ | refine blk_drew ?_ | refine blk_alloc ?_ _)); refine blk_far ?_ NB693_698.out _; (with_reducible repeat (first | refine blk_drewN ?_ _ | refine blk_drew ?_ | refine blk_alloc ?_ _)); refine blk_far ?_ NB693_698.out _; (with_reducible repeat (first | refine blk_drewN ?_ _ | refine blk_drew ?_ | refine blk_alloc ?_ _)); exact BK693.out⟩
    have n1_ : Aside0 (((w22.setCell ⟨gb698, 0, none⟩ (.string t696)).setCell ⟨gb698, 1, none⟩ (.int .i64 t697)).heap[gb694]? = some (.cells #[.string (⟨#[]⟩ : ByteArray), .int .i64 0] 69 (0, 0))) := ⟨by (with_reducible repeat (first | refine blk_drewN ?_ _ | refine blk_drew ?_ | refine blk_alloc ?_ _)); refine blk_far ?_ NB694_698.out _; (with_reducible repeat (first | refine blk_drewN ?_ _ | refine blk_drew ?_ | refine blk_alloc ?_ _)); refine blk_far ?_ NB694_698.out _; (with_reducible repeat (first | refine blk_drewN ?_ _ | refine blk_drew ?_ | refine blk_alloc ?_ _)); exact BK694.out⟩
    have n2_ : Aside0 (((w22.setCell ⟨gb698, 0, none⟩ (.string t696)).setCell ⟨gb698, 1, none⟩ (.int .i64 t697)).heap[gb698]? = some (.cells #[.string t696, .int .i64 t697] 69 (0, 0))) := ⟨by (with_reducible repeat (first | refine blk_drewN ?_ _ | refine blk_drew ?_ | refine blk_alloc ?_ _)); refine blk_put (cs := #[.string t696, .int .i64 0]) ?_ 1 _ rfl; (with_reducible repeat (first | refine blk_drewN ?_ _ | refine blk_drew ?_ | refine blk_alloc ?_ _)); refine blk_put (cs := #[.string (⟨#[]⟩ : ByteArray), .int .i64 0]) ?_ 0 _ rfl; (with_reducible repeat (first | refine blk_drewN ?_ _ | refine blk_drew ?_ | refine blk_alloc ?_ _)); exact BK698.out⟩
    have n3_ : Aside0 (Below w.heap.size w ((w22.setCell ⟨gb698, 0, none⟩ (.string t696)).setCell ⟨gb698, 1, none⟩ (.int .i64 t697))) := ⟨by repeat (first | (with_reducible first | exact HB.out | apply below_alloc | apply pw_below_drewN | apply below_drew1 | refine below_set ?_ GE693.out | refine below_set ?_ GE694.out | refine below_set ?_ GE698.out) | exact HB.out)⟩
    (try clear BK693)
    (try clear BK694)
    (try clear BK698)
    (try clear HB)
    generalize ((w22.setCell ⟨gb698, 0, none⟩ (.string t696)).setCell ⟨gb698, 1, none⟩ (.int .i64 t697)) = w26 at n0_ n1_ n2_ n3_ ⊢
    have BK693 := n0_
    have BK694 := n1_
    have BK698 := n2_
    have HB := n3_
    clear n0_ n1_ n2_ n3_
    have n0_ := Aside0.mk (blk_drew BK693.out)
    have n1_ := Aside0.mk (blk_drew BK694.out)
    have n2_ := Aside0.mk (blk_drew BK698.out)
    have n3_ := Aside0.mk (below_drew1 HB.out)
    clear BK693
    clear BK694
    clear BK698
    clear HB
    have BK693 := n0_
    have BK694 := n1_
    have BK698 := n2_
    have HB := n3_
    clear n0_ n1_ n2_ n3_
    refine start_ (n := 6) (S := fun w' => w'.cell? ⟨gb698, 0, none⟩ = some (.string t696) ∧ w'.cell? ⟨gb698, 1, none⟩ = some (.int .i64 t697)) (ds := []) #[false, false, false, false, false, false] (by kernel_rfl) rfl rfl ⟨(blk_cell BK698.out 0).trans rfl, (blk_cell BK698.out 1).trans rfl⟩ (fun hHeld => ?_)
    generalize w26.drew = w27 at BK693 BK694 BK698 HB hHeld ⊢
    refine pure_ (i := 0) (N := some 20) (v := ?_) (a' := ?_) #[true, false, false, false, false, false] rfl rfl (by kernel_rfl) (fun _ _ _ h => h) (Or.inl ⟨by rfl, ?_⟩) ?_ ?_
    rotate_left
    · intro w'
      go_simp
      with_reducible rfl
    rotate_left
    · simp only [Act.put, List.setIfInBounds_toArray, List.set_cons_zero, List.set_cons_succ, i64_w, i32_w]
      rfl
    refine pure_ (i := 1) (N := some 21) (v := ?_) (a' := ?_) #[true, true, false, false, false, false] rfl rfl (by kernel_rfl) (fun _ _ _ h => h) (Or.inl ⟨by rfl, ?_⟩) ?_ ?_
    rotate_left
    · intro w'
      go_simp
      with_reducible rfl
    rotate_left
    · simp only [Act.put, List.setIfInBounds_toArray, List.set_cons_zero, List.set_cons_succ, i64_w, i32_w]
      rfl
    refine pure_ (i := 2) (N := some 22) (v := ?_) (a' := ?_) #[true, true, true, false, false, false] rfl rfl (by kernel_rfl) (fun _ _ _ h => h) (Or.inl ⟨by rfl, ?_⟩) ?_ ?_
    rotate_left
    · intro w'
      go_simp
      with_reducible rfl
    rotate_left
    · simp only [Act.put, List.setIfInBounds_toArray, List.set_cons_zero, List.set_cons_succ, i64_w, i32_w]
      rfl
    refine pure_ (i := 4) (N := some 2) (v := ?_) (a' := ?_) #[true, true, true, false, true, false] rfl rfl (by kernel_rfl) (fun _ _ _ h => h) (Or.inl ⟨by rfl, ?_⟩) ?_ ?_
    rotate_left
    · intro w'
      go_simp
      with_reducible rfl
    rotate_left
    · simp only [Act.put, List.setIfInBounds_toArray, List.set_cons_zero, List.set_cons_succ, i64_w, i32_w]
      rfl
    refine take_ (i := 3) (N := some 23) (v := ?_) (a' := ?_) #[true, true, true, true, true, false] rfl rfl (by kernel_rfl) (fun _ _ _ h => h) (Or.inl ⟨by rfl, ?_⟩) hHeld ?_ ?_
    rotate_left
    · rintro w' ⟨s0, s1⟩
      go_simp
      with_reducible rfl
    rotate_left
    · simp only [Act.put, List.setIfInBounds_toArray, List.set_cons_zero, List.set_cons_succ, i64_w, i32_w]
      rfl
    refine one_ (i := 5) (N := none) #[true, true, true, true, true, true] rfl rfl (by kernel_rfl) (by decide) (fun K hK => ?_)
    have hs28 : w27.cell? ⟨gb694, 0, none⟩ = some (.string (⟨#[]⟩ : ByteArray)) := (blk_cell BK694.out 0).trans rfl
    have hfs28 := blk_frozen BK694.out 0
    have hns28_0 := NB693_694.out
    have hns28_2 := NB698_694.out
    have hms28_0 := NB694_693.out
    have hms28_2 := NB694_698.out
    have hs29 : w27.cell? ⟨gb694, 1, none⟩ = some (.int .i64 0) := (blk_cell BK694.out 1).trans rfl
    have hfs29 := blk_frozen BK694.out 1
    have hns29_0 := NB693_694.out
    have hns29_2 := NB698_694.out
    have hms29_0 := NB694_693.out
    have hms29_2 := NB694_698.out
    refine skip_ (w1 := ?_) (by rfl) rfl ?_ ?_
    rotate_left
    · go_simp
      rfl
    refine hK.out _ _ ⟨((cell_far (p := ⟨gb694, _, none⟩) NB698_694.out _).trans (((cell_far (p := ⟨gb694, _, none⟩) NB698_694.out _).trans (hHeld.1)))), ((cell_far (p := ⟨gb694, _, none⟩) NB698_694.out _).trans (((cell_far (p := ⟨gb694, _, none⟩) NB698_694.out _).trans (hHeld.2))))⟩ (fun hHeld => ?_)
    clear hK K
    refine done_ (by kernel_rfl) ?_
    try go_wp2
    refine bodyPost_ret (results_tc rfl _ _ gb694 69 #[.string t696, .int .i64 t697] (0, 0) _ rfl (by (with_reducible repeat (first | refine blk_drewN ?_ _ | refine blk_drew ?_ | refine blk_alloc ?_ _)); refine blk_put (cs := #[.string t696, .int .i64 0]) ?_ 1 _ rfl; (with_reducible repeat (first | refine blk_drewN ?_ _ | refine blk_drew ?_ | refine blk_alloc ?_ _)); refine blk_put (cs := #[.string (⟨#[]⟩ : ByteArray), .int .i64 0]) ?_ 0 _ rfl; (with_reducible repeat (first | refine blk_drewN ?_ _ | refine blk_drew ?_ | refine blk_alloc ?_ _)); exact BK694.out) Try.underlying69 rfl (by kernel_rfl)) rfl ?_
    exact ⟨by first | rfl | (simp [errW_none, errW_some] <;> rfl) | (simp [*, errW_none, errW_some] <;> rfl), by repeat (first | (with_reducible first | exact HB.out | apply below_alloc | apply pw_below_drewN | apply below_drew1 | refine below_set ?_ GE693.out | refine below_set ?_ GE694.out | refine below_set ?_ GE698.out) | exact HB.out)⟩

end Go.Proofs.Ytegefemkmdlmaaa.P
