-- Printed by a program of this session (hand.py) out of the translation. Lean checks it.
import Derived.Test.YtegefemkmdlmaaaF0
import Derived.Test.YtegefemkmdlmaaaGe
import Derived.Test.YtegefemkmdlmaaaF84
namespace Go.Proofs.Ytegefemkmdlmaaa.P
open Go.RowKit Go.Proofs.YtegefemkmdlmaaaW.PrintWords Go.Proofs.YtegefemkmdlmaaaW.PrintLast Go.Proofs.YtegefemkmdlmaaaW.PrintMore
attribute [local go_sem] max2_int min2_int max_two min_two max_three min_three max_four min_four   -- for this text's walks alone
set_option linter.unusedVariables false
set_option linter.unusedSimpArgs false

/-! ### dasdlaw07_LabelOther: function 22 -/
def dasdlaw07_LabelOther.j0 : Nat → Int → Bool → Int → Int → ByteArray → ByteArray → List (S103) → Int → Int → ByteArray → ByteArray → List (S103) → Option (Bool)
  | 0, _, _, _, _, _, _, _, _, _, _, _, _ => none
  | k + 1, x2, x30, x977000, x977001, x977002, x977003, x977004, x978000, x978001, x978002, x978003, x978004 => if x30 = true then ((dasdlaw07_awake.f k).bind fun t983 => (some t983)) else ((label_Encode.f k x977000 x977001 x977002 x977003 x977004 x2).bind fun t984 => ((label_Encode.f k x978000 x978001 x978002 x978003 x978004 x2).bind fun t985 => ((label_Equal.f k x977000 x977001 x977002 x977003 x977004 x978000 x978001 x978002 x978003 x978004).bind fun t986 => (some ((t984.toList == t985.toList) == t986)))))
def dasdlaw07_LabelOther.f (k : Nat) (a0_0 : Int) (a0_1 : Int) (a0_2 : ByteArray) (a0_3 : ByteArray) (l0_4 : List (S103)) (a1_0 : Int) (a1_1 : Int) (a1_2 : ByteArray) (a1_3 : ByteArray) (l1_4 : List (S103)) (a2 : Int) : Option (Bool) := (dasdlaw07_awake.f k).bind fun t978 => (if t978 = true then ((dasdref07_Few.f a0_0 a0_1 a0_2 a0_3 l0_4).bind fun t979 => (if t979 = true then ((dasdref07_Few.f a1_0 a1_1 a1_2 a1_3 l1_4).bind fun t980 => (if t980 = true then ((label_Valid.f a0_0 a0_1 a0_2 a0_3 l0_4 a2).bind fun t981 => (if t981 = true then ((label_Valid.f a1_0 a1_1 a1_2 a1_3 l1_4 a2).bind fun t982 => (dasdlaw07_LabelOther.j0 k a2 (!t982) a0_0 a0_1 a0_2 a0_3 l0_4 a1_0 a1_1 a1_2 a1_3 l1_4)) else (dasdlaw07_LabelOther.j0 k a2 true a0_0 a0_1 a0_2 a0_3 l0_4 a1_0 a1_1 a1_2 a1_3 l1_4))) else (dasdlaw07_LabelOther.j0 k a2 true a0_0 a0_1 a0_2 a0_3 l0_4 a1_0 a1_1 a1_2 a1_3 l1_4))) else (dasdlaw07_LabelOther.j0 k a2 true a0_0 a0_1 a0_2 a0_3 l0_4 a1_0 a1_1 a1_2 a1_3 l1_4))) else (dasdlaw07_LabelOther.j0 k a2 true a0_0 a0_1 a0_2 a0_3 l0_4 a1_0 a1_1 a1_2 a1_3 l1_4))
theorem dasdlaw07_LabelOther.mono_l : ∀ k, (∀ y0 y1 y2 y3 y4 y5 y6 y7 y8 y9 y10 y11, LeO (dasdlaw07_LabelOther.j0 k y0 y1 y2 y3 y4 y5 y6 y7 y8 y9 y10 y11) (dasdlaw07_LabelOther.j0 (k + 1) y0 y1 y2 y3 y4 y5 y6 y7 y8 y9 y10 y11))
  | 0 => fun _ _ _ _ _ _ _ _ _ _ _ _ r h => by simp [dasdlaw07_LabelOther.j0] at h
  | k + 1 => by
    have ih0 := dasdlaw07_LabelOther.mono_l k
    · intro y0 y1 y2 y3 y4 y5 y6 y7 y8 y9 y10 y11
      unfold dasdlaw07_LabelOther.j0
      repeat' first
      | (with_reducible exact ih0 _ _ _ _ _ _ _ _ _ _ _ _)
      | (with_reducible exact dasdlaw07_awake.mono _)
      | (with_reducible exact label_Encode.mono _ _ _ _ _ _ _)
      | (with_reducible exact label_Equal.mono _ _ _ _ _ _ _ _ _ _ _)
      | (with_reducible exact LeO.refl _)
      | (with_reducible exact LeO.none _)
      | (with_reducible refine LeO.ite ?_ ?_)
      | (with_reducible refine LeO.bind ?_ (fun _ => ?_))
      | exact ih0 _ _ _ _ _ _ _ _ _ _ _ _
      | exact dasdlaw07_awake.mono _
      | exact label_Encode.mono _ _ _ _ _ _ _
      | exact label_Equal.mono _ _ _ _ _ _ _ _ _ _ _
      | exact LeO.none _
      | refine LeO.ite ?_ ?_
      | refine LeO.bind ?_ (fun _ => ?_)
theorem dasdlaw07_LabelOther.mono : ∀ a0 a1 a2 a3 a4 a5 a6 a7 a8 a9 a10 k, LeO (dasdlaw07_LabelOther.f k a0 a1 a2 a3 a4 a5 a6 a7 a8 a9 a10) (dasdlaw07_LabelOther.f (k + 1) a0 a1 a2 a3 a4 a5 a6 a7 a8 a9 a10) := by
  intro a0 a1 a2 a3 a4 a5 a6 a7 a8 a9 a10 k
  have ih0 := dasdlaw07_LabelOther.mono_l k
  unfold dasdlaw07_LabelOther.f
  repeat' first
      | (with_reducible exact ih0 _ _ _ _ _ _ _ _ _ _ _ _)
      | (with_reducible exact dasdlaw07_awake.mono _)
      | (with_reducible exact label_Encode.mono _ _ _ _ _ _ _)
      | (with_reducible exact label_Equal.mono _ _ _ _ _ _ _ _ _ _ _)
      | (with_reducible exact LeO.refl _)
      | (with_reducible exact LeO.none _)
      | (with_reducible refine LeO.ite ?_ ?_)
      | (with_reducible refine LeO.bind ?_ (fun _ => ?_))
      | exact ih0 _ _ _ _ _ _ _ _ _ _ _ _
      | exact dasdlaw07_awake.mono _
      | exact label_Encode.mono _ _ _ _ _ _ _
      | exact label_Equal.mono _ _ _ _ _ _ _ _ _ _ _
      | exact LeO.none _
      | refine LeO.ite ?_ ?_
      | refine LeO.bind ?_ (fun _ => ?_)
def dasdlaw07_LabelOther.T3 : Bool × List (List Nat × List Nat) := (true, [([], []), ([], []), ([0, 1], [0, 1]), ([], []), ([], []), ([3, 4, 2], [3, 4]), ([2, 5], [2, 5]), ([], []), ([], []), ([7, 8, 5], [7, 8]), ([6, 9], [6, 9]), ([10, 9, 0, 1, 2, 3, 4, 5, 6, 7, 8, 9, 10], [10])])
def dasdlaw07_LabelOther.B3 : List Nat := [0, 0, 3, 0, 0, 31, 63, 0, 0, 447, 1023, 2047]
theorem dasdlaw07_LabelOther.tab3 : rtab .any (opsOf Try.f22 3) = dasdlaw07_LabelOther.T3 := by kernel_rfl
theorem dasdlaw07_LabelOther.bits3 : waitsOk dasdlaw07_LabelOther.T3.2 dasdlaw07_LabelOther.B3 = true := by kernel_rfl
set_option maxHeartbeats 8000000 in
set_option maxRecDepth 100000 in
theorem dasdlaw07_LabelOther.calls (k : Nat) (a0_0 : Int) (a0_1 : Int) (a0_2 : ByteArray) (a0_3 : ByteArray) (A0_4 : Option Addr) (c0_4 : Nat) (l0_4 : List (S103)) (a1_0 : Int) (a1_1 : Int) (a1_2 : ByteArray) (a1_3 : ByteArray) (A1_4 : Option Addr) (c1_4 : Nat) (l1_4 : List (S103)) (a2 : Int) (r : Bool) (w : World) (hr0_4 : Kd.C k103 w A0_4 l0_4.length l0_4) (hc0_4 : l0_4.length ≤ c0_4) (hr1_4 : Kd.C k103 w A1_4 l1_4.length l1_4) (hc1_4 : l1_4.length ≤ c1_4) (h : dasdlaw07_LabelOther.f k a0_0 a0_1 a0_2 a0_3 l0_4 a1_0 a1_1 a1_2 a1_3 l1_4 a2 = some r) :
    Calls Try.prog 22 #[.agg #[.int .i64 a0_0, .int .i64 a0_1, .string a0_2, .string a0_3, .slice A0_4 l0_4.length c0_4], .agg #[.int .i64 a1_0, .int .i64 a1_1, .string a1_2, .string a1_3, .slice A1_4 l1_4.length c1_4], .int .i64 a2] w fun e w' => e = .returned (.bool r) ∧ Below w.heap.size w w' := by
  have hu55 := Try.underlying55
  have HR0_4 := Aside0.mk hr0_4
  have HC0_4 := Aside0.mk hc0_4
  clear hr0_4 hc0_4
  have HR1_4 := Aside0.mk hr1_4
  have HC1_4 := Aside0.mk hc1_4
  clear hr1_4 hc1_4
  have HB := Aside0.mk (Below.refl w.heap.size w)
  have H : ((dasdlaw07_awake.f k).bind fun t978 => (if t978 = true then ((dasdref07_Few.f a0_0 a0_1 a0_2 a0_3 l0_4).bind fun t979 => (if t979 = true then ((dasdref07_Few.f a1_0 a1_1 a1_2 a1_3 l1_4).bind fun t980 => (if t980 = true then ((label_Valid.f a0_0 a0_1 a0_2 a0_3 l0_4 a2).bind fun t981 => (if t981 = true then ((label_Valid.f a1_0 a1_1 a1_2 a1_3 l1_4 a2).bind fun t982 => (dasdlaw07_LabelOther.j0 k a2 (!t982) a0_0 a0_1 a0_2 a0_3 l0_4 a1_0 a1_1 a1_2 a1_3 l1_4)) else (dasdlaw07_LabelOther.j0 k a2 true a0_0 a0_1 a0_2 a0_3 l0_4 a1_0 a1_1 a1_2 a1_3 l1_4))) else (dasdlaw07_LabelOther.j0 k a2 true a0_0 a0_1 a0_2 a0_3 l0_4 a1_0 a1_1 a1_2 a1_3 l1_4))) else (dasdlaw07_LabelOther.j0 k a2 true a0_0 a0_1 a0_2 a0_3 l0_4 a1_0 a1_1 a1_2 a1_3 l1_4))) else (dasdlaw07_LabelOther.j0 k a2 true a0_0 a0_1 a0_2 a0_3 l0_4 a1_0 a1_1 a1_2 a1_3 l1_4))) = some r := h
  clear h
  have HC4 := Aside0.mk H
  clear H
  go_enter Try.func22, Try.ntmps22
  go_upto_region 1 with (first | ((with_reducible refine gate_dst (N := 3) rfl ?_); refine box_event ?hg (N := 3) ?hd (cs := #[.int .i64 a0_0, .int .i64 a0_1, .string a0_2, .string a0_3, .slice A0_4 l0_4.length c0_4]) (t := 55) ?hr ?_; (case hd => rfl); (case hg => rfl); (case hr => first | (go_simp; done) | (go_simp; rfl)); intro gb976 hg w5 hbox hb; have n0_ := Aside0.mk (below_step (by repeat (first | (with_reducible first | exact HB.out | apply below_alloc | apply pw_below_drewN | apply below_drew1) | exact HB.out)) hb); have n1_ := Aside0.mk (hbox); have n2_ := Aside0.mk ((by rw [hg]; exact (below_size (by repeat (first | (with_reducible first | exact HB.out | apply below_alloc | apply pw_below_drewN | apply below_drew1) | exact HB.out))) : w.heap.size ≤ gb976)); have n3_ := Aside0.mk ((by rw [hg]; exact (below_size (by repeat (first | (with_reducible first | exact HB.out | apply below_alloc | apply pw_below_drewN | apply below_drew1) | exact HB.out))) : w.heap.size ≤ gb976)); clear HB; have HB := n0_; have BK976 := n1_; have GW976 := n2_; have GE976 := n3_; clear n0_ n1_ n2_ n3_; clear hb hbox hg) | ((with_reducible refine gate_dst (N := 4) rfl ?_); refine box_event ?hg (N := 4) ?hd (cs := #[.int .i64 a1_0, .int .i64 a1_1, .string a1_2, .string a1_3, .slice A1_4 l1_4.length c1_4]) (t := 55) ?hr ?_; (case hd => rfl); (case hg => rfl); (case hr => first | (go_simp; done) | (go_simp; rfl)); intro gb977 hg w6 hbox hb; have n0_ := Aside0.mk (blk_below (g := gb976) (o := .cells #[.int .i64 a0_0, .int .i64 a0_1, .string a0_2, .string a0_3, .slice A0_4 l0_4.length c0_4] 55 (0, 0)) (by (with_reducible repeat (first | refine blk_drewN ?_ _ | refine blk_drew ?_ | refine blk_alloc ?_ _)); exact BK976.out) hb); have n1_ := Aside0.mk (below_step (by repeat (first | (with_reducible first | exact HB.out | apply below_alloc | apply pw_below_drewN | apply below_drew1 | refine below_set ?_ GE976.out) | exact HB.out)) hb); have n2_ := Aside0.mk (hbox); have n3_ := Aside0.mk ((by rw [hg]; exact (below_size (by repeat (first | (with_reducible first | exact HB.out | apply below_alloc | apply pw_below_drewN | apply below_drew1 | refine below_set ?_ GE976.out) | exact HB.out))) : w.heap.size ≤ gb977)); have n4_ := Aside0.mk ((by rw [hg]; exact (below_size (by repeat (first | (with_reducible first | exact HB.out | apply below_alloc | apply pw_below_drewN | apply below_drew1 | refine below_set ?_ GE976.out) | exact HB.out))) : w.heap.size ≤ gb977)); have n5_ := Aside0.mk ((by rw [hg]; exact Nat.ne_of_lt (blk_lt (g := gb976) (o := .cells #[.int .i64 a0_0, .int .i64 a0_1, .string a0_2, .string a0_3, .slice A0_4 l0_4.length c0_4] 55 (0, 0)) (by (with_reducible repeat (first | refine blk_drewN ?_ _ | refine blk_drew ?_ | refine blk_alloc ?_ _)); exact BK976.out)) : gb976 ≠ gb977)); have n6_ := Aside0.mk ((by rw [hg]; exact Nat.ne_of_gt (blk_lt (g := gb976) (o := .cells #[.int .i64 a0_0, .int .i64 a0_1, .string a0_2, .string a0_3, .slice A0_4 l0_4.length c0_4] 55 (0, 0)) (by (with_reducible repeat (first | refine blk_drewN ?_ _ | refine blk_drew ?_ | refine blk_alloc ?_ _)); exact BK976.out)) : gb977 ≠ gb976)); clear BK976; clear HB; have BK976 := n0_; have HB := n1_; have BK977 := n2_; have GW977 := n3_; have GE977 := n4_; have NB976_977 := n5_; have NB977_976 := n6_; clear n0_ n1_ n2_ n3_ n4_ n5_ n6_; clear hb hbox hg))
  (try simp only [Act.put, List.setIfInBounds_toArray, List.set_cons_zero, List.set_cons_succ])
  go_cut [30] (fun v30 wc => ∃ (kq : Nat) (x30_3 : Bool), v30 = .bool x30_3 ∧ Aside0 (dasdlaw07_LabelOther.j0 kq a2 x30_3 a0_0 a0_1 a0_2 a0_3 l0_4 a1_0 a1_1 a1_2 a1_3 l1_4 = some r) ∧ Aside0 (kq ≤ k) ∧ Aside0 (wc.heap[gb976]? = some (.cells #[.int .i64 a0_0, .int .i64 a0_1, .string a0_2, .string a0_3, (.slice A0_4 l0_4.length c0_4)] 55 (0, 0))) ∧ Aside0 (wc.heap[gb977]? = some (.cells #[.int .i64 a1_0, .int .i64 a1_1, .string a1_2, .string a1_3, (.slice A1_4 l1_4.length c1_4)] 55 (0, 0))) ∧ Aside0 (Below w.heap.size w wc))
  case first =>
    have H := HC4.out
    clear HC4
    replace H := Option.bind_eq_some_iff.mp H
    obtain ⟨t978, A70, H⟩ := H
    replace H : (if t978 = true then ((dasdref07_Few.f a0_0 a0_1 a0_2 a0_3 l0_4).bind fun t979 => (if t979 = true then ((dasdref07_Few.f a1_0 a1_1 a1_2 a1_3 l1_4).bind fun t980 => (if t980 = true then ((label_Valid.f a0_0 a0_1 a0_2 a0_3 l0_4 a2).bind fun t981 => (if t981 = true then ((label_Valid.f a1_0 a1_1 a1_2 a1_3 l1_4 a2).bind fun t982 => (dasdlaw07_LabelOther.j0 k a2 (!t982) a0_0 a0_1 a0_2 a0_3 l0_4 a1_0 a1_1 a1_2 a1_3 l1_4)) else (dasdlaw07_LabelOther.j0 k a2 true a0_0 a0_1 a0_2 a0_3 l0_4 a1_0 a1_1 a1_2 a1_3 l1_4))) else (dasdlaw07_LabelOther.j0 k a2 true a0_0 a0_1 a0_2 a0_3 l0_4 a1_0 a1_1 a1_2 a1_3 l1_4))) else (dasdlaw07_LabelOther.j0 k a2 true a0_0 a0_1 a0_2 a0_3 l0_4 a1_0 a1_1 a1_2 a1_3 l1_4))) else (dasdlaw07_LabelOther.j0 k a2 true a0_0 a0_1 a0_2 a0_3 l0_4 a1_0 a1_1 a1_2 a1_3 l1_4)) = some r := H
    have A7 := Aside0.mk A70
    clear A70
    by_cases c8 : t978 = true
    · subst c8
      have H1 : ((dasdref07_Few.f a0_0 a0_1 a0_2 a0_3 l0_4).bind fun t979 => (if t979 = true then ((dasdref07_Few.f a1_0 a1_1 a1_2 a1_3 l1_4).bind fun t980 => (if t980 = true then ((label_Valid.f a0_0 a0_1 a0_2 a0_3 l0_4 a2).bind fun t981 => (if t981 = true then ((label_Valid.f a1_0 a1_1 a1_2 a1_3 l1_4 a2).bind fun t982 => (dasdlaw07_LabelOther.j0 k a2 (!t982) a0_0 a0_1 a0_2 a0_3 l0_4 a1_0 a1_1 a1_2 a1_3 l1_4)) else (dasdlaw07_LabelOther.j0 k a2 true a0_0 a0_1 a0_2 a0_3 l0_4 a1_0 a1_1 a1_2 a1_3 l1_4))) else (dasdlaw07_LabelOther.j0 k a2 true a0_0 a0_1 a0_2 a0_3 l0_4 a1_0 a1_1 a1_2 a1_3 l1_4))) else (dasdlaw07_LabelOther.j0 k a2 true a0_0 a0_1 a0_2 a0_3 l0_4 a1_0 a1_1 a1_2 a1_3 l1_4))) = some r := by rw [if_pos rfl] at H; exact H
      clear H
      have H := H1
      clear H1
      replace H := Option.bind_eq_some_iff.mp H
      obtain ⟨t979, A90, H⟩ := H
      replace H : (if t979 = true then ((dasdref07_Few.f a1_0 a1_1 a1_2 a1_3 l1_4).bind fun t980 => (if t980 = true then ((label_Valid.f a0_0 a0_1 a0_2 a0_3 l0_4 a2).bind fun t981 => (if t981 = true then ((label_Valid.f a1_0 a1_1 a1_2 a1_3 l1_4 a2).bind fun t982 => (dasdlaw07_LabelOther.j0 k a2 (!t982) a0_0 a0_1 a0_2 a0_3 l0_4 a1_0 a1_1 a1_2 a1_3 l1_4)) else (dasdlaw07_LabelOther.j0 k a2 true a0_0 a0_1 a0_2 a0_3 l0_4 a1_0 a1_1 a1_2 a1_3 l1_4))) else (dasdlaw07_LabelOther.j0 k a2 true a0_0 a0_1 a0_2 a0_3 l0_4 a1_0 a1_1 a1_2 a1_3 l1_4))) else (dasdlaw07_LabelOther.j0 k a2 true a0_0 a0_1 a0_2 a0_3 l0_4 a1_0 a1_1 a1_2 a1_3 l1_4)) = some r := H
      have A9 := Aside0.mk A90
      clear A90
      by_cases c10 : t979 = true
      · subst c10
        have H1 : ((dasdref07_Few.f a1_0 a1_1 a1_2 a1_3 l1_4).bind fun t980 => (if t980 = true then ((label_Valid.f a0_0 a0_1 a0_2 a0_3 l0_4 a2).bind fun t981 => (if t981 = true then ((label_Valid.f a1_0 a1_1 a1_2 a1_3 l1_4 a2).bind fun t982 => (dasdlaw07_LabelOther.j0 k a2 (!t982) a0_0 a0_1 a0_2 a0_3 l0_4 a1_0 a1_1 a1_2 a1_3 l1_4)) else (dasdlaw07_LabelOther.j0 k a2 true a0_0 a0_1 a0_2 a0_3 l0_4 a1_0 a1_1 a1_2 a1_3 l1_4))) else (dasdlaw07_LabelOther.j0 k a2 true a0_0 a0_1 a0_2 a0_3 l0_4 a1_0 a1_1 a1_2 a1_3 l1_4))) = some r := by rw [if_pos rfl] at H; exact H
        clear H
        have H := H1
        clear H1
        replace H := Option.bind_eq_some_iff.mp H
        obtain ⟨t980, A110, H⟩ := H
        replace H : (if t980 = true then ((label_Valid.f a0_0 a0_1 a0_2 a0_3 l0_4 a2).bind fun t981 => (if t981 = true then ((label_Valid.f a1_0 a1_1 a1_2 a1_3 l1_4 a2).bind fun t982 => (dasdlaw07_LabelOther.j0 k a2 (!t982) a0_0 a0_1 a0_2 a0_3 l0_4 a1_0 a1_1 a1_2 a1_3 l1_4)) else (dasdlaw07_LabelOther.j0 k a2 true a0_0 a0_1 a0_2 a0_3 l0_4 a1_0 a1_1 a1_2 a1_3 l1_4))) else (dasdlaw07_LabelOther.j0 k a2 true a0_0 a0_1 a0_2 a0_3 l0_4 a1_0 a1_1 a1_2 a1_3 l1_4)) = some r := H
        have A11 := Aside0.mk A110
        clear A110
        by_cases c12 : t980 = true
        · subst c12
          have H1 : ((label_Valid.f a0_0 a0_1 a0_2 a0_3 l0_4 a2).bind fun t981 => (if t981 = true then ((label_Valid.f a1_0 a1_1 a1_2 a1_3 l1_4 a2).bind fun t982 => (dasdlaw07_LabelOther.j0 k a2 (!t982) a0_0 a0_1 a0_2 a0_3 l0_4 a1_0 a1_1 a1_2 a1_3 l1_4)) else (dasdlaw07_LabelOther.j0 k a2 true a0_0 a0_1 a0_2 a0_3 l0_4 a1_0 a1_1 a1_2 a1_3 l1_4))) = some r := by rw [if_pos rfl] at H; exact H
          clear H
          have H := H1
          clear H1
          replace H := Option.bind_eq_some_iff.mp H
          obtain ⟨t981, A130, H⟩ := H
          replace H : (if t981 = true then ((label_Valid.f a1_0 a1_1 a1_2 a1_3 l1_4 a2).bind fun t982 => (dasdlaw07_LabelOther.j0 k a2 (!t982) a0_0 a0_1 a0_2 a0_3 l0_4 a1_0 a1_1 a1_2 a1_3 l1_4)) else (dasdlaw07_LabelOther.j0 k a2 true a0_0 a0_1 a0_2 a0_3 l0_4 a1_0 a1_1 a1_2 a1_3 l1_4)) = some r := H
          have A13 := Aside0.mk A130
          clear A130
          by_cases c14 : t981 = true
          · subst c14
            have H1 : ((label_Valid.f a1_0 a1_1 a1_2 a1_3 l1_4 a2).bind fun t982 => (dasdlaw07_LabelOther.j0 k a2 (!t982) a0_0 a0_1 a0_2 a0_3 l0_4 a1_0 a1_1 a1_2 a1_3 l1_4)) = some r := by rw [if_pos rfl] at H; exact H
            clear H
            have H := H1
            clear H1
            replace H := Option.bind_eq_some_iff.mp H
            obtain ⟨t982, A150, H⟩ := H
            replace H : (dasdlaw07_LabelOther.j0 k a2 (!t982) a0_0 a0_1 a0_2 a0_3 l0_4 a1_0 a1_1 a1_2 a1_3 l1_4) = some r := H
            have A15 := Aside0.mk A150
            clear A150
            have H' := Aside0.mk H
            clear H
            go_wp2_with (first | ((with_reducible refine gate_callee (f := 43) rfl ?_); refine goesL_ (some 7) rfl rfl Try.func43 (by kernel_rfl) rfl #[] rfl (by (try simp only [List.map_toArray, List.map_cons, List.map_nil]); first | done | rfl | (simp only [List.length_drop, List.length_take]; rfl)) ?_; (with_reducible refine (dasdlaw07_awake.calls k  true _ A7.out).mono ?_); rintro e w16 ⟨rfl, hb⟩; refine ⟨_, rfl, ?_⟩; have n0_ := Aside0.mk (blk_below (g := gb976) (o := .cells #[.int .i64 a0_0, .int .i64 a0_1, .string a0_2, .string a0_3, .slice A0_4 l0_4.length c0_4] 55 (0, 0)) (by (with_reducible repeat (first | refine blk_drewN ?_ _ | refine blk_drew ?_ | refine blk_alloc ?_ _)); exact BK976.out) hb); have n1_ := Aside0.mk (blk_below (g := gb977) (o := .cells #[.int .i64 a1_0, .int .i64 a1_1, .string a1_2, .string a1_3, .slice A1_4 l1_4.length c1_4] 55 (0, 0)) (by (with_reducible repeat (first | refine blk_drewN ?_ _ | refine blk_drew ?_ | refine blk_alloc ?_ _)); exact BK977.out) hb); have n2_ := Aside0.mk (below_step (by repeat (first | (with_reducible first | exact HB.out | apply below_alloc | apply pw_below_drewN | apply below_drew1 | refine below_set ?_ GE976.out | refine below_set ?_ GE977.out) | exact HB.out)) hb); clear BK976; clear BK977; clear HB; have BK976 := n0_; have BK977 := n1_; have HB := n2_; clear n0_ n1_ n2_; (try clear hb); (try clear hb2); (try clear hk); (try clear hi); have hnb17 := NB976_977.out; have hnc17 := NB977_976.out; have hcz18_0 : w16.cell? ⟨gb976, 0, none⟩ = some (.int .i64 a0_0) := (blk_cell BK976.out 0).trans rfl; have hcz18_1 : w16.cell? ⟨gb976, 1, none⟩ = some (.int .i64 a0_1) := (blk_cell BK976.out 1).trans rfl; have hcz18_2 : w16.cell? ⟨gb976, 2, none⟩ = some (.string a0_2) := (blk_cell BK976.out 2).trans rfl; have hcz18_3 : w16.cell? ⟨gb976, 3, none⟩ = some (.string a0_3) := (blk_cell BK976.out 3).trans rfl; have hcz18_4 : w16.cell? ⟨gb976, 4, none⟩ = some (.slice A0_4 l0_4.length c0_4) := (blk_cell BK976.out 4).trans rfl; have hfz18_0 := blk_frozen BK976.out 0; have hfz18_1 := blk_frozen BK976.out 1; have hfz18_2 := blk_frozen BK976.out 2; have hfz18_3 := blk_frozen BK976.out 3; have hfz18_4 := blk_frozen BK976.out 4) | (go_at_call 84; (with_reducible refine (dasdref07_Few.calls a0_0 a0_1 a0_2 a0_3 _ _ l0_4 true _ ?side1 ?side2 A9.out).mono ?_); (case side1 => repeat (first | exact (Kd.C_below HR0_4.out HB.out) | (with_reducible refine Kd.C_alloc ?_ _) | (with_reducible refine Kd.C_drewN ?_ _) | (with_reducible refine Kd.C_drew ?_))); (case side2 => exact HC0_4.out); rintro e w19 ⟨rfl, hb⟩; have n0_ := Aside0.mk (blk_below (g := gb976) (o := .cells #[.int .i64 a0_0, .int .i64 a0_1, .string a0_2, .string a0_3, .slice A0_4 l0_4.length c0_4] 55 (0, 0)) (by (with_reducible repeat (first | refine blk_drewN ?_ _ | refine blk_drew ?_ | refine blk_alloc ?_ _)); exact BK976.out) hb); have n1_ := Aside0.mk (blk_below (g := gb977) (o := .cells #[.int .i64 a1_0, .int .i64 a1_1, .string a1_2, .string a1_3, .slice A1_4 l1_4.length c1_4] 55 (0, 0)) (by (with_reducible repeat (first | refine blk_drewN ?_ _ | refine blk_drew ?_ | refine blk_alloc ?_ _)); exact BK977.out) hb); have n2_ := Aside0.mk (below_step (by repeat (first | (with_reducible first | exact HB.out | apply below_alloc | apply pw_below_drewN | apply below_drew1 | refine below_set ?_ GE976.out | refine below_set ?_ GE977.out) | exact HB.out)) hb); clear BK976; clear BK977; clear HB; have BK976 := n0_; have BK977 := n1_; have HB := n2_; clear n0_ n1_ n2_; (try clear hb); (try clear hb2); (try clear hk); (try clear hi); have hcz20_0 : w19.cell? ⟨gb977, 0, none⟩ = some (.int .i64 a1_0) := (blk_cell BK977.out 0).trans rfl; have hcz20_1 : w19.cell? ⟨gb977, 1, none⟩ = some (.int .i64 a1_1) := (blk_cell BK977.out 1).trans rfl; have hcz20_2 : w19.cell? ⟨gb977, 2, none⟩ = some (.string a1_2) := (blk_cell BK977.out 2).trans rfl; have hcz20_3 : w19.cell? ⟨gb977, 3, none⟩ = some (.string a1_3) := (blk_cell BK977.out 3).trans rfl; have hcz20_4 : w19.cell? ⟨gb977, 4, none⟩ = some (.slice A1_4 l1_4.length c1_4) := (blk_cell BK977.out 4).trans rfl; have hfz20_0 := blk_frozen BK977.out 0; have hfz20_1 := blk_frozen BK977.out 1; have hfz20_2 := blk_frozen BK977.out 2; have hfz20_3 := blk_frozen BK977.out 3; have hfz20_4 := blk_frozen BK977.out 4) | (go_at_call 84; (with_reducible refine (dasdref07_Few.calls a1_0 a1_1 a1_2 a1_3 _ _ l1_4 true _ ?side1 ?side2 A11.out).mono ?_); (case side1 => repeat (first | exact (Kd.C_below HR1_4.out HB.out) | (with_reducible refine Kd.C_alloc ?_ _) | (with_reducible refine Kd.C_drewN ?_ _) | (with_reducible refine Kd.C_drew ?_))); (case side2 => exact HC1_4.out); rintro e w21 ⟨rfl, hb⟩; have n0_ := Aside0.mk (blk_below (g := gb976) (o := .cells #[.int .i64 a0_0, .int .i64 a0_1, .string a0_2, .string a0_3, .slice A0_4 l0_4.length c0_4] 55 (0, 0)) (by (with_reducible repeat (first | refine blk_drewN ?_ _ | refine blk_drew ?_ | refine blk_alloc ?_ _)); exact BK976.out) hb); have n1_ := Aside0.mk (blk_below (g := gb977) (o := .cells #[.int .i64 a1_0, .int .i64 a1_1, .string a1_2, .string a1_3, .slice A1_4 l1_4.length c1_4] 55 (0, 0)) (by (with_reducible repeat (first | refine blk_drewN ?_ _ | refine blk_drew ?_ | refine blk_alloc ?_ _)); exact BK977.out) hb); have n2_ := Aside0.mk (below_step (by repeat (first | (with_reducible first | exact HB.out | apply below_alloc | apply pw_below_drewN | apply below_drew1 | refine below_set ?_ GE976.out | refine below_set ?_ GE977.out) | exact HB.out)) hb); clear BK976; clear BK977; clear HB; have BK976 := n0_; have BK977 := n1_; have HB := n2_; clear n0_ n1_ n2_; (try clear hb); (try clear hb2); (try clear hk); (try clear hi); have hcz22_0 : w21.cell? ⟨gb976, 0, none⟩ = some (.int .i64 a0_0) := (blk_cell BK976.out 0).trans rfl; have hcz22_1 : w21.cell? ⟨gb976, 1, none⟩ = some (.int .i64 a0_1) := (blk_cell BK976.out 1).trans rfl; have hcz22_2 : w21.cell? ⟨gb976, 2, none⟩ = some (.string a0_2) := (blk_cell BK976.out 2).trans rfl; have hcz22_3 : w21.cell? ⟨gb976, 3, none⟩ = some (.string a0_3) := (blk_cell BK976.out 3).trans rfl; have hcz22_4 : w21.cell? ⟨gb976, 4, none⟩ = some (.slice A0_4 l0_4.length c0_4) := (blk_cell BK976.out 4).trans rfl; have hfz22_0 := blk_frozen BK976.out 0; have hfz22_1 := blk_frozen BK976.out 1; have hfz22_2 := blk_frozen BK976.out 2; have hfz22_3 := blk_frozen BK976.out 3; have hfz22_4 := blk_frozen BK976.out 4) | (go_at_call 85; (with_reducible refine (label_Valid.calls a0_0 a0_1 a0_2 a0_3 _ _ l0_4 a2 true _ ?side1 ?side2 A13.out).mono ?_); (case side1 => repeat (first | exact (Kd.C_below HR0_4.out HB.out) | (with_reducible refine Kd.C_alloc ?_ _) | (with_reducible refine Kd.C_drewN ?_ _) | (with_reducible refine Kd.C_drew ?_))); (case side2 => exact HC0_4.out); rintro e w23 ⟨rfl, hb⟩; have n0_ := Aside0.mk (blk_below (g := gb976) (o := .cells #[.int .i64 a0_0, .int .i64 a0_1, .string a0_2, .string a0_3, .slice A0_4 l0_4.length c0_4] 55 (0, 0)) (by (with_reducible repeat (first | refine blk_drewN ?_ _ | refine blk_drew ?_ | refine blk_alloc ?_ _)); exact BK976.out) hb); have n1_ := Aside0.mk (blk_below (g := gb977) (o := .cells #[.int .i64 a1_0, .int .i64 a1_1, .string a1_2, .string a1_3, .slice A1_4 l1_4.length c1_4] 55 (0, 0)) (by (with_reducible repeat (first | refine blk_drewN ?_ _ | refine blk_drew ?_ | refine blk_alloc ?_ _)); exact BK977.out) hb); have n2_ := Aside0.mk (below_step (by repeat (first | (with_reducible first | exact HB.out | apply below_alloc | apply pw_below_drewN | apply below_drew1 | refine below_set ?_ GE976.out | refine below_set ?_ GE977.out) | exact HB.out)) hb); clear BK976; clear BK977; clear HB; have BK976 := n0_; have BK977 := n1_; have HB := n2_; clear n0_ n1_ n2_; (try clear hb); (try clear hb2); (try clear hk); (try clear hi); have hcz24_0 : w23.cell? ⟨gb977, 0, none⟩ = some (.int .i64 a1_0) := (blk_cell BK977.out 0).trans rfl; have hcz24_1 : w23.cell? ⟨gb977, 1, none⟩ = some (.int .i64 a1_1) := (blk_cell BK977.out 1).trans rfl; have hcz24_2 : w23.cell? ⟨gb977, 2, none⟩ = some (.string a1_2) := (blk_cell BK977.out 2).trans rfl; have hcz24_3 : w23.cell? ⟨gb977, 3, none⟩ = some (.string a1_3) := (blk_cell BK977.out 3).trans rfl; have hcz24_4 : w23.cell? ⟨gb977, 4, none⟩ = some (.slice A1_4 l1_4.length c1_4) := (blk_cell BK977.out 4).trans rfl; have hfz24_0 := blk_frozen BK977.out 0; have hfz24_1 := blk_frozen BK977.out 1; have hfz24_2 := blk_frozen BK977.out 2; have hfz24_3 := blk_frozen BK977.out 3; have hfz24_4 := blk_frozen BK977.out 4) | (go_at_call 85; (with_reducible refine (label_Valid.calls a1_0 a1_1 a1_2 a1_3 _ _ l1_4 a2 t982 _ ?side1 ?side2 A15.out).mono ?_); (case side1 => repeat (first | exact (Kd.C_below HR1_4.out HB.out) | (with_reducible refine Kd.C_alloc ?_ _) | (with_reducible refine Kd.C_drewN ?_ _) | (with_reducible refine Kd.C_drew ?_))); (case side2 => exact HC1_4.out); rintro e w25 ⟨rfl, hb⟩; have n0_ := Aside0.mk (blk_below (g := gb976) (o := .cells #[.int .i64 a0_0, .int .i64 a0_1, .string a0_2, .string a0_3, .slice A0_4 l0_4.length c0_4] 55 (0, 0)) (by (with_reducible repeat (first | refine blk_drewN ?_ _ | refine blk_drew ?_ | refine blk_alloc ?_ _)); exact BK976.out) hb); have n1_ := Aside0.mk (blk_below (g := gb977) (o := .cells #[.int .i64 a1_0, .int .i64 a1_1, .string a1_2, .string a1_3, .slice A1_4 l1_4.length c1_4] 55 (0, 0)) (by (with_reducible repeat (first | refine blk_drewN ?_ _ | refine blk_drew ?_ | refine blk_alloc ?_ _)); exact BK977.out) hb); have n2_ := Aside0.mk (below_step (by repeat (first | (with_reducible first | exact HB.out | apply below_alloc | apply pw_below_drewN | apply below_drew1 | refine below_set ?_ GE976.out | refine below_set ?_ GE977.out) | exact HB.out)) hb); clear BK976; clear BK977; clear HB; have BK976 := n0_; have BK977 := n1_; have HB := n2_; clear n0_ n1_ n2_; (try clear hb); (try clear hb2); (try clear hk); (try clear hi)))
            go_meet
            case rel => exact ⟨_, (!t982), (by first | rfl | (simp; done) | (simp [*]; done)), H', ⟨by first | omega | exact Nat.le_refl _⟩, ⟨by (with_reducible repeat (first | refine blk_drewN ?_ _ | refine blk_drew ?_ | refine blk_alloc ?_ _)); exact BK976.out⟩, ⟨by (with_reducible repeat (first | refine blk_drewN ?_ _ | refine blk_drew ?_ | refine blk_alloc ?_ _)); exact BK977.out⟩, ⟨by repeat (first | (with_reducible first | exact HB.out | apply below_alloc | apply pw_below_drewN | apply below_drew1 | refine below_set ?_ GE976.out | refine below_set ?_ GE977.out) | exact HB.out)⟩⟩
          · replace c14 := Bool.eq_false_iff.mpr c14
            subst c14
            have H1 : (dasdlaw07_LabelOther.j0 k a2 true a0_0 a0_1 a0_2 a0_3 l0_4 a1_0 a1_1 a1_2 a1_3 l1_4) = some r := by rw [if_neg (show ¬ (false = true) by decide)] at H; exact H
            clear H
            have H := H1
            clear H1
            have H' := Aside0.mk H
            clear H
            go_wp2_with (first | ((with_reducible refine gate_callee (f := 43) rfl ?_); refine goesL_ (some 7) rfl rfl Try.func43 (by kernel_rfl) rfl #[] rfl (by (try simp only [List.map_toArray, List.map_cons, List.map_nil]); first | done | rfl | (simp only [List.length_drop, List.length_take]; rfl)) ?_; (with_reducible refine (dasdlaw07_awake.calls k  true _ A7.out).mono ?_); rintro e w26 ⟨rfl, hb⟩; refine ⟨_, rfl, ?_⟩; have n0_ := Aside0.mk (blk_below (g := gb976) (o := .cells #[.int .i64 a0_0, .int .i64 a0_1, .string a0_2, .string a0_3, .slice A0_4 l0_4.length c0_4] 55 (0, 0)) (by (with_reducible repeat (first | refine blk_drewN ?_ _ | refine blk_drew ?_ | refine blk_alloc ?_ _)); exact BK976.out) hb); have n1_ := Aside0.mk (blk_below (g := gb977) (o := .cells #[.int .i64 a1_0, .int .i64 a1_1, .string a1_2, .string a1_3, .slice A1_4 l1_4.length c1_4] 55 (0, 0)) (by (with_reducible repeat (first | refine blk_drewN ?_ _ | refine blk_drew ?_ | refine blk_alloc ?_ _)); exact BK977.out) hb); have n2_ := Aside0.mk (below_step (by repeat (first | (with_reducible first | exact HB.out | apply below_alloc | apply pw_below_drewN | apply below_drew1 | refine below_set ?_ GE976.out | refine below_set ?_ GE977.out) | exact HB.out)) hb); clear BK976; clear BK977; clear HB; have BK976 := n0_; have BK977 := n1_; have HB := n2_; clear n0_ n1_ n2_; (try clear hb); (try clear hb2); (try clear hk); (try clear hi); have hnb27 := NB976_977.out; have hnc27 := NB977_976.out; have hcz28_0 : w26.cell? ⟨gb976, 0, none⟩ = some (.int .i64 a0_0) := (blk_cell BK976.out 0).trans rfl; have hcz28_1 : w26.cell? ⟨gb976, 1, none⟩ = some (.int .i64 a0_1) := (blk_cell BK976.out 1).trans rfl; have hcz28_2 : w26.cell? ⟨gb976, 2, none⟩ = some (.string a0_2) := (blk_cell BK976.out 2).trans rfl; have hcz28_3 : w26.cell? ⟨gb976, 3, none⟩ = some (.string a0_3) := (blk_cell BK976.out 3).trans rfl; have hcz28_4 : w26.cell? ⟨gb976, 4, none⟩ = some (.slice A0_4 l0_4.length c0_4) := (blk_cell BK976.out 4).trans rfl; have hfz28_0 := blk_frozen BK976.out 0; have hfz28_1 := blk_frozen BK976.out 1; have hfz28_2 := blk_frozen BK976.out 2; have hfz28_3 := blk_frozen BK976.out 3; have hfz28_4 := blk_frozen BK976.out 4) | (go_at_call 84; (with_reducible refine (dasdref07_Few.calls a0_0 a0_1 a0_2 a0_3 _ _ l0_4 true _ ?side1 ?side2 A9.out).mono ?_); (case side1 => repeat (first | exact (Kd.C_below HR0_4.out HB.out) | (with_reducible refine Kd.C_alloc ?_ _) | (with_reducible refine Kd.C_drewN ?_ _) | (with_reducible refine Kd.C_drew ?_))); (case side2 => exact HC0_4.out); rintro e w29 ⟨rfl, hb⟩; have n0_ := Aside0.mk (blk_below (g := gb976) (o := .cells #[.int .i64 a0_0, .int .i64 a0_1, .string a0_2, .string a0_3, .slice A0_4 l0_4.length c0_4] 55 (0, 0)) (by (with_reducible repeat (first | refine blk_drewN ?_ _ | refine blk_drew ?_ | refine blk_alloc ?_ _)); exact BK976.out) hb); have n1_ := Aside0.mk (blk_below (g := gb977) (o := .cells #[.int .i64 a1_0, .int .i64 a1_1, .string a1_2, .string a1_3, .slice A1_4 l1_4.length c1_4] 55 (0, 0)) (by (with_reducible repeat (first | refine blk_drewN ?_ _ | refine blk_drew ?_ | refine blk_alloc ?_ _)); exact BK977.out) hb); have n2_ := Aside0.mk (below_step (by repeat (first | (with_reducible first | exact HB.out | apply below_alloc | apply pw_below_drewN | apply below_drew1 | refine below_set ?_ GE976.out | refine below_set ?_ GE977.out) | exact HB.out)) hb); clear BK976; clear BK977; clear HB; have BK976 := n0_; have BK977 := n1_; have HB := n2_; clear n0_ n1_ n2_; (try clear hb); (try clear hb2); (try clear hk); (try clear hi); have hcz30_0 : w29.cell? ⟨gb977, 0, none⟩ = some (.int .i64 a1_0) := (blk_cell BK977.out 0).trans rfl; have hcz30_1 : w29.cell? ⟨gb977, 1, none⟩ = some (.int .i64 a1_1) := (blk_cell BK977.out 1).trans rfl; have hcz30_2 : w29.cell? ⟨gb977, 2, none⟩ = some (.string a1_2) := (blk_cell BK977.out 2).trans rfl; have hcz30_3 : w29.cell? ⟨gb977, 3, none⟩ = some (.string a1_3) := (blk_cell BK977.out 3).trans rfl; have hcz30_4 : w29.cell? ⟨gb977, 4, none⟩ = some (.slice A1_4 l1_4.length c1_4) := (blk_cell BK977.out 4).trans rfl; have hfz30_0 := blk_frozen BK977.out 0; have hfz30_1 := blk_frozen BK977.out 1; have hfz30_2 := blk_frozen BK977.out 2; have hfz30_3 := blk_frozen BK977.out 3; have hfz30_4 := blk_frozen BK977.out 4) | (go_at_call 84; (with_reducible refine (dasdref07_Few.calls a1_0 a1_1 a1_2 a1_3 _ _ l1_4 true _ ?side1 ?side2 A11.out).mono ?_); (case side1 => repeat (first | exact (Kd.C_below HR1_4.out HB.out) | (with_reducible refine Kd.C_alloc ?_ _) | (with_reducible refine Kd.C_drewN ?_ _) | (with_reducible refine Kd.C_drew ?_))); (case side2 => exact HC1_4.out); rintro e w31 ⟨rfl, hb⟩; have n0_ := Aside0.mk (blk_below (g := gb976) (o := .cells #[.int .i64 a0_0, .int .i64 a0_1, .string a0_2, .string a0_3, .slice A0_4 l0_4.length c0_4] 55 (0, 0)) (by (with_reducible repeat (first | refine blk_drewN ?_ _ | refine blk_drew ?_ | refine blk_alloc ?_ _)); exact BK976.out) hb); have n1_ := Aside0.mk (blk_below (g := gb977) (o := .cells #[.int .i64 a1_0, .int .i64 a1_1, .string a1_2, .string a1_3, .slice A1_4 l1_4.length c1_4] 55 (0, 0)) (by (with_reducible repeat (first | refine blk_drewN ?_ _ | refine blk_drew ?_ | refine blk_alloc ?_ _)); exact BK977.out) hb); have n2_ := Aside0.mk (below_step (by repeat (first | (with_reducible first | exact HB.out | apply below_alloc | apply pw_below_drewN | apply below_drew1 | refine below_set ?_ GE976.out | refine below_set ?_ GE977.out) | exact HB.out)) hb); clear BK976; clear BK977; clear HB; have BK976 := n0_; have BK977 := n1_; have HB := n2_; clear n0_ n1_ n2_; (try clear hb); (try clear hb2); (try clear hk); (try clear hi); have hcz32_0 : w31.cell? ⟨gb976, 0, none⟩ = some (.int .i64 a0_0) := (blk_cell BK976.out 0).trans rfl; have hcz32_1 : w31.cell? ⟨gb976, 1, none⟩ = some (.int .i64 a0_1) := (blk_cell BK976.out 1).trans rfl; have hcz32_2 : w31.cell? ⟨gb976, 2, none⟩ = some (.string a0_2) := (blk_cell BK976.out 2).trans rfl; have hcz32_3 : w31.cell? ⟨gb976, 3, none⟩ = some (.string a0_3) := (blk_cell BK976.out 3).trans rfl; have hcz32_4 : w31.cell? ⟨gb976, 4, none⟩ = some (.slice A0_4 l0_4.length c0_4) := (blk_cell BK976.out 4).trans rfl; have hfz32_0 := blk_frozen BK976.out 0; have hfz32_1 := blk_frozen BK976.out 1; have hfz32_2 := blk_frozen BK976.out 2; have hfz32_3 := blk_frozen BK976.out 3; have hfz32_4 := blk_frozen BK976.out 4) | (go_at_call 85; (with_reducible refine (label_Valid.calls a0_0 a0_1 a0_2 a0_3 _ _ l0_4 a2 false _ ?side1 ?side2 A13.out).mono ?_); (case side1 => repeat (first | exact (Kd.C_below HR0_4.out HB.out) | (with_reducible refine Kd.C_alloc ?_ _) | (with_reducible refine Kd.C_drewN ?_ _) | (with_reducible refine Kd.C_drew ?_))); (case side2 => exact HC0_4.out); rintro e w33 ⟨rfl, hb⟩; have n0_ := Aside0.mk (blk_below (g := gb976) (o := .cells #[.int .i64 a0_0, .int .i64 a0_1, .string a0_2, .string a0_3, .slice A0_4 l0_4.length c0_4] 55 (0, 0)) (by (with_reducible repeat (first | refine blk_drewN ?_ _ | refine blk_drew ?_ | refine blk_alloc ?_ _)); exact BK976.out) hb); have n1_ := Aside0.mk (blk_below (g := gb977) (o := .cells #[.int .i64 a1_0, .int .i64 a1_1, .string a1_2, .string a1_3, .slice A1_4 l1_4.length c1_4] 55 (0, 0)) (by (with_reducible repeat (first | refine blk_drewN ?_ _ | refine blk_drew ?_ | refine blk_alloc ?_ _)); exact BK977.out) hb); have n2_ := Aside0.mk (below_step (by repeat (first | (with_reducible first | exact HB.out | apply below_alloc | apply pw_below_drewN | apply below_drew1 | refine below_set ?_ GE976.out | refine below_set ?_ GE977.out) | exact HB.out)) hb); clear BK976; clear BK977; clear HB; have BK976 := n0_; have BK977 := n1_; have HB := n2_; clear n0_ n1_ n2_; (try clear hb); (try clear hb2); (try clear hk); (try clear hi)))
            go_meet
            case rel => exact ⟨_, (true), (by first | rfl | (simp; done) | (simp [*]; done)), H', ⟨by first | omega | exact Nat.le_refl _⟩, ⟨by (with_reducible repeat (first | refine blk_drewN ?_ _ | refine blk_drew ?_ | refine blk_alloc ?_ _)); exact BK976.out⟩, ⟨by (with_reducible repeat (first | refine blk_drewN ?_ _ | refine blk_drew ?_ | refine blk_alloc ?_ _)); exact BK977.out⟩, ⟨by repeat (first | (with_reducible first | exact HB.out | apply below_alloc | apply pw_below_drewN | apply below_drew1 | refine below_set ?_ GE976.out | refine below_set ?_ GE977.out) | exact HB.out)⟩⟩
        · replace c12 := Bool.eq_false_iff.mpr c12
          subst c12
          have H1 : (dasdlaw07_LabelOther.j0 k a2 true a0_0 a0_1 a0_2 a0_3 l0_4 a1_0 a1_1 a1_2 a1_3 l1_4) = some r := by rw [if_neg (show ¬ (false = true) by decide)] at H; exact H
          clear H
          have H := H1
          clear H1
          have H' := Aside0.mk H
          clear H
          go_wp2_with (first | ((with_reducible refine gate_callee (f := 43) rfl ?_); refine goesL_ (some 7) rfl rfl Try.func43 (by kernel_rfl) rfl #[] rfl (by (try simp only [List.map_toArray, List.map_cons, List.map_nil]); first | done | rfl | (simp only [List.length_drop, List.length_take]; rfl)) ?_; (with_reducible refine (dasdlaw07_awake.calls k  true _ A7.out).mono ?_); rintro e w34 ⟨rfl, hb⟩; refine ⟨_, rfl, ?_⟩; have n0_ := Aside0.mk (blk_below (g := gb976) (o := .cells #[.int .i64 a0_0, .int .i64 a0_1, .string a0_2, .string a0_3, .slice A0_4 l0_4.length c0_4] 55 (0, 0)) (by (with_reducible repeat (first | refine blk_drewN ?_ _ | refine blk_drew ?_ | refine blk_alloc ?_ _)); exact BK976.out) hb); have n1_ := Aside0.mk (blk_below (g := gb977) (o := .cells #[.int .i64 a1_0, .int .i64 a1_1, .string a1_2, .string a1_3, .slice A1_4 l1_4.length c1_4] 55 (0, 0)) (by (with_reducible repeat (first | refine blk_drewN ?_ _ | refine blk_drew ?_ | refine blk_alloc ?_ _)); exact BK977.out) hb); have n2_ := Aside0.mk (below_step (by repeat (first | (with_reducible first | exact HB.out | apply below_alloc | apply pw_below_drewN | apply below_drew1 | refine below_set ?_ GE976.out | refine below_set ?_ GE977.out) | exact HB.out)) hb); clear BK976; clear BK977; clear HB; have BK976 := n0_; have BK977 := n1_; have HB := n2_; clear n0_ n1_ n2_; (try clear hb); (try clear hb2); (try clear hk); (try clear hi); have hnb35 := NB976_977.out; have hnc35 := NB977_976.out; have hcz36_0 : w34.cell? ⟨gb976, 0, none⟩ = some (.int .i64 a0_0) := (blk_cell BK976.out 0).trans rfl; have hcz36_1 : w34.cell? ⟨gb976, 1, none⟩ = some (.int .i64 a0_1) := (blk_cell BK976.out 1).trans rfl; have hcz36_2 : w34.cell? ⟨gb976, 2, none⟩ = some (.string a0_2) := (blk_cell BK976.out 2).trans rfl; have hcz36_3 : w34.cell? ⟨gb976, 3, none⟩ = some (.string a0_3) := (blk_cell BK976.out 3).trans rfl; have hcz36_4 : w34.cell? ⟨gb976, 4, none⟩ = some (.slice A0_4 l0_4.length c0_4) := (blk_cell BK976.out 4).trans rfl; have hfz36_0 := blk_frozen BK976.out 0; have hfz36_1 := blk_frozen BK976.out 1; have hfz36_2 := blk_frozen BK976.out 2; have hfz36_3 := blk_frozen BK976.out 3; have hfz36_4 := blk_frozen BK976.out 4) | (go_at_call 84; (with_reducible refine (dasdref07_Few.calls a0_0 a0_1 a0_2 a0_3 _ _ l0_4 true _ ?side1 ?side2 A9.out).mono ?_); (case side1 => repeat (first | exact (Kd.C_below HR0_4.out HB.out) | (with_reducible refine Kd.C_alloc ?_ _) | (with_reducible refine Kd.C_drewN ?_ _) | (with_reducible refine Kd.C_drew ?_))); (case side2 => exact HC0_4.out); rintro e w37 ⟨rfl, hb⟩; have n0_ := Aside0.mk (blk_below (g := gb976) (o := .cells #[.int .i64 a0_0, .int .i64 a0_1, .string a0_2, .string a0_3, .slice A0_4 l0_4.length c0_4] 55 (0, 0)) (by (with_reducible repeat (first | refine blk_drewN ?_ _ | refine blk_drew ?_ | refine blk_alloc ?_ _)); exact BK976.out) hb); have n1_ := Aside0.mk (blk_below (g := gb977) (o := .cells #[.int .i64 a1_0, .int .i64 a1_1, .string a1_2, .string a1_3, .slice A1_4 l1_4.length c1_4] 55 (0, 0)) (by (with_reducible repeat (first | refine blk_drewN ?_ _ | refine blk_drew ?_ | refine blk_alloc ?_ _)); exact BK977.out) hb); have n2_ := Aside0.mk (below_step (by repeat (first | (with_reducible first | exact HB.out | apply below_alloc | apply pw_below_drewN | apply below_drew1 | refine below_set ?_ GE976.out | refine below_set ?_ GE977.out) | exact HB.out)) hb); clear BK976; clear BK977; clear HB; have BK976 := n0_; have BK977 := n1_; have HB := n2_; clear n0_ n1_ n2_; (try clear hb); (try clear hb2); (try clear hk); (try clear hi); have hcz38_0 : w37.cell? ⟨gb977, 0, none⟩ = some (.int .i64 a1_0) := (blk_cell BK977.out 0).trans rfl; have hcz38_1 : w37.cell? ⟨gb977, 1, none⟩ = some (.int .i64 a1_1) := (blk_cell BK977.out 1).trans rfl; have hcz38_2 : w37.cell? ⟨gb977, 2, none⟩ = some (.string a1_2) := (blk_cell BK977.out 2).trans rfl; have hcz38_3 : w37.cell? ⟨gb977, 3, none⟩ = some (.string a1_3) := (blk_cell BK977.out 3).trans rfl; have hcz38_4 : w37.cell? ⟨gb977, 4, none⟩ = some (.slice A1_4 l1_4.length c1_4) := (blk_cell BK977.out 4).trans rfl; have hfz38_0 := blk_frozen BK977.out 0; have hfz38_1 := blk_frozen BK977.out 1; have hfz38_2 := blk_frozen BK977.out 2; have hfz38_3 := blk_frozen BK977.out 3; have hfz38_4 := blk_frozen BK977.out 4) | (go_at_call 84; (with_reducible refine (dasdref07_Few.calls a1_0 a1_1 a1_2 a1_3 _ _ l1_4 false _ ?side1 ?side2 A11.out).mono ?_); (case side1 => repeat (first | exact (Kd.C_below HR1_4.out HB.out) | (with_reducible refine Kd.C_alloc ?_ _) | (with_reducible refine Kd.C_drewN ?_ _) | (with_reducible refine Kd.C_drew ?_))); (case side2 => exact HC1_4.out); rintro e w39 ⟨rfl, hb⟩; have n0_ := Aside0.mk (blk_below (g := gb976) (o := .cells #[.int .i64 a0_0, .int .i64 a0_1, .string a0_2, .string a0_3, .slice A0_4 l0_4.length c0_4] 55 (0, 0)) (by (with_reducible repeat (first | refine blk_drewN ?_ _ | refine blk_drew ?_ | refine blk_alloc ?_ _)); exact BK976.out) hb); have n1_ := Aside0.mk (blk_below (g := gb977) (o := .cells #[.int .i64 a1_0, .int .i64 a1_1, .string a1_2, .string a1_3, .slice A1_4 l1_4.length c1_4] 55 (0, 0)) (by (with_reducible repeat (first | refine blk_drewN ?_ _ | refine blk_drew ?_ | refine blk_alloc ?_ _)); exact BK977.out) hb); have n2_ := Aside0.mk (below_step (by repeat (first | (with_reducible first | exact HB.out | apply below_alloc | apply pw_below_drewN | apply below_drew1 | refine below_set ?_ GE976.out | refine below_set ?_ GE977.out) | exact HB.out)) hb); clear BK976; clear BK977; clear HB; have BK976 := n0_; have BK977 := n1_; have HB := n2_; clear n0_ n1_ n2_; (try clear hb); (try clear hb2); (try clear hk); (try clear hi)))
          go_meet
          case rel => exact ⟨_, (true), (by first | rfl | (simp; done) | (simp [*]; done)), H', ⟨by first | omega | exact Nat.le_refl _⟩, ⟨by (with_reducible repeat (first | refine blk_drewN ?_ _ | refine blk_drew ?_ | refine blk_alloc ?_ _)); exact BK976.out⟩, ⟨by (with_reducible repeat (first | refine blk_drewN ?_ _ | refine blk_drew ?_ | refine blk_alloc ?_ _)); exact BK977.out⟩, ⟨by repeat (first | (with_reducible first | exact HB.out | apply below_alloc | apply pw_below_drewN | apply below_drew1 | refine below_set ?_ GE976.out | refine below_set ?_ GE977.out) | exact HB.out)⟩⟩
      · replace c10 := Bool.eq_false_iff.mpr c10
        subst c10
        have H1 : (dasdlaw07_LabelOther.j0 k a2 true a0_0 a0_1 a0_2 a0_3 l0_4 a1_0 a1_1 a1_2 a1_3 l1_4) = some r := by rw [if_neg (show ¬ (false = true) by decide)] at H; exact H
        clear H
        have H := H1
        clear H1
        have H' := Aside0.mk H
        clear H
        go_wp2_with (first | ((with_reducible refine gate_callee (f := 43) rfl ?_); refine goesL_ (some 7) rfl rfl Try.func43 (by kernel_rfl) rfl #[] rfl (by (try simp only [List.map_toArray, List.map_cons, List.map_nil]); first | done | rfl | (simp only [List.length_drop, List.length_take]; rfl)) ?_; (with_reducible refine (dasdlaw07_awake.calls k  true _ A7.out).mono ?_); rintro e w40 ⟨rfl, hb⟩; refine ⟨_, rfl, ?_⟩; have n0_ := Aside0.mk (blk_below (g := gb976) (o := .cells #[.int .i64 a0_0, .int .i64 a0_1, .string a0_2, .string a0_3, .slice A0_4 l0_4.length c0_4] 55 (0, 0)) (by (with_reducible repeat (first | refine blk_drewN ?_ _ | refine blk_drew ?_ | refine blk_alloc ?_ _)); exact BK976.out) hb); have n1_ := Aside0.mk (blk_below (g := gb977) (o := .cells #[.int .i64 a1_0, .int .i64 a1_1, .string a1_2, .string a1_3, .slice A1_4 l1_4.length c1_4] 55 (0, 0)) (by (with_reducible repeat (first | refine blk_drewN ?_ _ | refine blk_drew ?_ | refine blk_alloc ?_ _)); exact BK977.out) hb); have n2_ := Aside0.mk (below_step (by repeat (first | (with_reducible first | exact HB.out | apply below_alloc | apply pw_below_drewN | apply below_drew1 | refine below_set ?_ GE976.out | refine below_set ?_ GE977.out) | exact HB.out)) hb); clear BK976; clear BK977; clear HB; have BK976 := n0_; have BK977 := n1_; have HB := n2_; clear n0_ n1_ n2_; (try clear hb); (try clear hb2); (try clear hk); (try clear hi); have hnb41 := NB976_977.out; have hnc41 := NB977_976.out; have hcz42_0 : w40.cell? ⟨gb976, 0, none⟩ = some (.int .i64 a0_0) := (blk_cell BK976.out 0).trans rfl; have hcz42_1 : w40.cell? ⟨gb976, 1, none⟩ = some (.int .i64 a0_1) := (blk_cell BK976.out 1).trans rfl; have hcz42_2 : w40.cell? ⟨gb976, 2, none⟩ = some (.string a0_2) := (blk_cell BK976.out 2).trans rfl; have hcz42_3 : w40.cell? ⟨gb976, 3, none⟩ = some (.string a0_3) := (blk_cell BK976.out 3).trans rfl; have hcz42_4 : w40.cell? ⟨gb976, 4, none⟩ = some (.slice A0_4 l0_4.length c0_4) := (blk_cell BK976.out 4).trans rfl; have hfz42_0 := blk_frozen BK976.out 0; have hfz42_1 := blk_frozen BK976.out 1; have hfz42_2 := blk_frozen BK976.out 2; have hfz42_3 := blk_frozen BK976.out 3; have hfz42_4 := blk_frozen BK976.out 4) | (go_at_call 84; (with_reducible refine (dasdref07_Few.calls a0_0 a0_1 a0_2 a0_3 _ _ l0_4 false _ ?side1 ?side2 A9.out).mono ?_); (case side1 => repeat (first | exact (Kd.C_below HR0_4.out HB.out) | (with_reducible refine Kd.C_alloc ?_ _) | (with_reducible refine Kd.C_drewN ?_ _) | (with_reducible refine Kd.C_drew ?_))); (case side2 => exact HC0_4.out); rintro e w43 ⟨rfl, hb⟩; have n0_ := Aside0.mk (blk_below (g := gb976) (o := .cells #[.int .i64 a0_0, .int .i64 a0_1, .string a0_2, .string a0_3, .slice A0_4 l0_4.length c0_4] 55 (0, 0)) (by (with_reducible repeat (first | refine blk_drewN ?_ _ | refine blk_drew ?_ | refine blk_alloc ?_ _)); exact BK976.out) hb); have n1_ := Aside0.mk (blk_below (g := gb977) (o := .cells #[.int .i64 a1_0, .int .i64 a1_1, .string a1_2, .string a1_3, .slice A1_4 l1_4.length c1_4] 55 (0, 0)) (by (with_reducible repeat (first | refine blk_drewN ?_ _ | refine blk_drew ?_ | refine blk_alloc ?_ _)); exact BK977.out) hb); have n2_ := Aside0.mk (below_step (by repeat (first | (with_reducible first | exact HB.out | apply below_alloc | apply pw_below_drewN | apply below_drew1 | refine below_set ?_ GE976.out | refine below_set ?_ GE977.out) | exact HB.out)) hb); clear BK976; clear BK977; clear HB; have BK976 := n0_; have BK977 := n1_; have HB := n2_; clear n0_ n1_ n2_; (try clear hb); (try clear hb2); (try clear hk); (try clear hi)))
        go_meet
        case rel => exact ⟨_, (true), (by first | rfl | (simp; done) | (simp [*]; done)), H', ⟨by first | omega | exact Nat.le_refl _⟩, ⟨by (with_reducible repeat (first | refine blk_drewN ?_ _ | refine blk_drew ?_ | refine blk_alloc ?_ _)); exact BK976.out⟩, ⟨by (with_reducible repeat (first | refine blk_drewN ?_ _ | refine blk_drew ?_ | refine blk_alloc ?_ _)); exact BK977.out⟩, ⟨by repeat (first | (with_reducible first | exact HB.out | apply below_alloc | apply pw_below_drewN | apply below_drew1 | refine below_set ?_ GE976.out | refine below_set ?_ GE977.out) | exact HB.out)⟩⟩
    · replace c8 := Bool.eq_false_iff.mpr c8
      subst c8
      have H1 : (dasdlaw07_LabelOther.j0 k a2 true a0_0 a0_1 a0_2 a0_3 l0_4 a1_0 a1_1 a1_2 a1_3 l1_4) = some r := by rw [if_neg (show ¬ (false = true) by decide)] at H; exact H
      clear H
      have H := H1
      clear H1
      have H' := Aside0.mk H
      clear H
      go_wp2_with (first | ((with_reducible refine gate_callee (f := 43) rfl ?_); refine goesL_ (some 7) rfl rfl Try.func43 (by kernel_rfl) rfl #[] rfl (by (try simp only [List.map_toArray, List.map_cons, List.map_nil]); first | done | rfl | (simp only [List.length_drop, List.length_take]; rfl)) ?_; (with_reducible refine (dasdlaw07_awake.calls k  false _ A7.out).mono ?_); rintro e w44 ⟨rfl, hb⟩; refine ⟨_, rfl, ?_⟩; have n0_ := Aside0.mk (blk_below (g := gb976) (o := .cells #[.int .i64 a0_0, .int .i64 a0_1, .string a0_2, .string a0_3, .slice A0_4 l0_4.length c0_4] 55 (0, 0)) (by (with_reducible repeat (first | refine blk_drewN ?_ _ | refine blk_drew ?_ | refine blk_alloc ?_ _)); exact BK976.out) hb); have n1_ := Aside0.mk (blk_below (g := gb977) (o := .cells #[.int .i64 a1_0, .int .i64 a1_1, .string a1_2, .string a1_3, .slice A1_4 l1_4.length c1_4] 55 (0, 0)) (by (with_reducible repeat (first | refine blk_drewN ?_ _ | refine blk_drew ?_ | refine blk_alloc ?_ _)); exact BK977.out) hb); have n2_ := Aside0.mk (below_step (by repeat (first | (with_reducible first | exact HB.out | apply below_alloc | apply pw_below_drewN | apply below_drew1 | refine below_set ?_ GE976.out | refine below_set ?_ GE977.out) | exact HB.out)) hb); clear BK976; clear BK977; clear HB; have BK976 := n0_; have BK977 := n1_; have HB := n2_; clear n0_ n1_ n2_; (try clear hb); (try clear hb2); (try clear hk); (try clear hi)))
      go_meet
      case rel => exact ⟨_, (true), (by first | rfl | (simp; done) | (simp [*]; done)), H', ⟨by first | omega | exact Nat.le_refl _⟩, ⟨by (with_reducible repeat (first | refine blk_drewN ?_ _ | refine blk_drew ?_ | refine blk_alloc ?_ _)); exact BK976.out⟩, ⟨by (with_reducible repeat (first | refine blk_drewN ?_ _ | refine blk_drew ?_ | refine blk_alloc ?_ _)); exact BK977.out⟩, ⟨by repeat (first | (with_reducible first | exact HB.out | apply below_alloc | apply pw_below_drewN | apply below_drew1 | refine below_set ?_ GE976.out | refine below_set ?_ GE977.out) | exact HB.out)⟩⟩
  case rest =>
    clear HC4
    try clear c1
    try clear c2
    try clear p2
    try clear c3
    try clear c4
    try clear c8
    try clear c10
    try clear c12
    try clear c14
    try clear c17
    try clear c22
    try clear c27
    try clear c35
    try clear c41
    try clear c43
    try clear hcz18_0
    try clear hcz18_1
    try clear hcz18_2
    try clear hcz18_3
    try clear hcz18_4
    try clear hcz20_0
    try clear hcz20_1
    try clear hcz20_2
    try clear hcz20_3
    try clear hcz20_4
    try clear hcz22_0
    try clear hcz22_1
    try clear hcz22_2
    try clear hcz22_3
    try clear hcz22_4
    try clear hcz24_0
    try clear hcz24_1
    try clear hcz24_2
    try clear hcz24_3
    try clear hcz24_4
    try clear hcz28_0
    try clear hcz28_1
    try clear hcz28_2
    try clear hcz28_3
    try clear hcz28_4
    try clear hcz30_0
    try clear hcz30_1
    try clear hcz30_2
    try clear hcz30_3
    try clear hcz30_4
    try clear hcz32_0
    try clear hcz32_1
    try clear hcz32_2
    try clear hcz32_3
    try clear hcz32_4
    try clear hcz36_0
    try clear hcz36_1
    try clear hcz36_2
    try clear hcz36_3
    try clear hcz36_4
    try clear hcz38_0
    try clear hcz38_1
    try clear hcz38_2
    try clear hcz38_3
    try clear hcz38_4
    try clear hcz42_0
    try clear hcz42_1
    try clear hcz42_2
    try clear hcz42_3
    try clear hcz42_4
    try clear hfz18_0
    try clear hfz18_1
    try clear hfz18_2
    try clear hfz18_3
    try clear hfz18_4
    try clear hfz20_0
    try clear hfz20_1
    try clear hfz20_2
    try clear hfz20_3
    try clear hfz20_4
    try clear hfz22_0
    try clear hfz22_1
    try clear hfz22_2
    try clear hfz22_3
    try clear hfz22_4
    try clear hfz24_0
    try clear hfz24_1
    try clear hfz24_2
    try clear hfz24_3
    try clear hfz24_4
    try clear hfz28_0
    try clear hfz28_1
    try clear hfz28_2
    try clear hfz28_3
    try clear hfz28_4
    try clear hfz30_0
    try clear hfz30_1
    try clear hfz30_2
    try clear hfz30_3
    try clear hfz30_4
    try clear hfz32_0
    try clear hfz32_1
    try clear hfz32_2
    try clear hfz32_3
    try clear hfz32_4
    try clear hfz36_0
    try clear hfz36_1
    try clear hfz36_2
    try clear hfz36_3
    try clear hfz36_4
    try clear hfz38_0
    try clear hfz38_1
    try clear hfz38_2
    try clear hfz38_3
    try clear hfz38_4
    try clear hfz42_0
    try clear hfz42_1
    try clear hfz42_2
    try clear hfz42_3
    try clear hfz42_4
    obtain ⟨kq, x30_3, rfl, HA, HJ3, BK976, BK977, HB⟩ := hcut
    cases kq with
    | zero => exact absurd HA.out (by simp [dasdlaw07_LabelOther.j0])
    | succ kj3 =>
      have H := HA.out
      clear HA
      simp only [dasdlaw07_LabelOther.j0] at H
      by_cases c45 : x30_3 = true
      · subst c45
        have H1 : ((dasdlaw07_awake.f kj3).bind fun t983 => (some t983)) = some r := by rw [if_pos rfl] at H; exact H
        clear H
        have H := H1
        clear H1
        replace H := Option.bind_eq_some_iff.mp H
        obtain ⟨t983, A460, H⟩ := H
        replace H : (some t983) = some r := H
        have A46 := Aside0.mk A460
        clear A460
        obtain rfl := Option.some.inj H
        go_wp2_with (first | ((with_reducible refine gate_callee (f := 43) rfl ?_); refine goesL_ (some 31) rfl rfl Try.func43 (by kernel_rfl) rfl #[] rfl (by (try simp only [List.map_toArray, List.map_cons, List.map_nil]); first | done | rfl | (simp only [List.length_drop, List.length_take]; rfl)) ?_; (with_reducible refine (dasdlaw07_awake.calls kj3  t983 _ A46.out).mono ?_); rintro e w47 ⟨rfl, hb⟩; refine ⟨_, rfl, ?_⟩; have n0_ := Aside0.mk (blk_below (g := gb976) (o := .cells #[.int .i64 a0_0, .int .i64 a0_1, .string a0_2, .string a0_3, .slice A0_4 l0_4.length c0_4] 55 (0, 0)) (by (with_reducible repeat (first | refine blk_drewN ?_ _ | refine blk_drew ?_ | refine blk_alloc ?_ _)); exact BK976.out) hb); have n1_ := Aside0.mk (blk_below (g := gb977) (o := .cells #[.int .i64 a1_0, .int .i64 a1_1, .string a1_2, .string a1_3, .slice A1_4 l1_4.length c1_4] 55 (0, 0)) (by (with_reducible repeat (first | refine blk_drewN ?_ _ | refine blk_drew ?_ | refine blk_alloc ?_ _)); exact BK977.out) hb); have n2_ := Aside0.mk (below_step (by repeat (first | (with_reducible first | exact HB.out | apply below_alloc | apply pw_below_drewN | apply below_drew1 | refine below_set ?_ GE976.out | refine below_set ?_ GE977.out) | exact HB.out)) hb); clear BK976; clear BK977; clear HB; have BK976 := n0_; have BK977 := n1_; have HB := n2_; clear n0_ n1_ n2_; (try clear hb); (try clear hb2); (try clear hk); (try clear hi)))
        go_ret
        exact ⟨by first | rfl | (simp [errW_none, errW_some] <;> rfl) | (simp [*, errW_none, errW_some] <;> rfl), by repeat (first | (with_reducible first | exact HB.out | apply below_alloc | apply pw_below_drewN | apply below_drew1 | refine below_set ?_ GE976.out | refine below_set ?_ GE977.out) | exact HB.out)⟩
      · replace c45 := Bool.eq_false_iff.mpr c45
        subst c45
        have H1 : ((label_Encode.f kj3 a0_0 a0_1 a0_2 a0_3 l0_4 a2).bind fun t984 => ((label_Encode.f kj3 a1_0 a1_1 a1_2 a1_3 l1_4 a2).bind fun t985 => ((label_Equal.f kj3 a0_0 a0_1 a0_2 a0_3 l0_4 a1_0 a1_1 a1_2 a1_3 l1_4).bind fun t986 => (some ((t984.toList == t985.toList) == t986))))) = some r := by rw [if_neg (show ¬ (false = true) by decide)] at H; exact H
        clear H
        have H := H1
        clear H1
        replace H := Option.bind_eq_some_iff.mp H
        obtain ⟨t984, A480, H⟩ := H
        replace H : ((label_Encode.f kj3 a1_0 a1_1 a1_2 a1_3 l1_4 a2).bind fun t985 => ((label_Equal.f kj3 a0_0 a0_1 a0_2 a0_3 l0_4 a1_0 a1_1 a1_2 a1_3 l1_4).bind fun t986 => (some ((t984.toList == t985.toList) == t986)))) = some r := H
        have A48 := Aside0.mk A480
        clear A480
        replace H := Option.bind_eq_some_iff.mp H
        obtain ⟨t985, A490, H⟩ := H
        replace H : ((label_Equal.f kj3 a0_0 a0_1 a0_2 a0_3 l0_4 a1_0 a1_1 a1_2 a1_3 l1_4).bind fun t986 => (some ((t984.toList == t985.toList) == t986))) = some r := H
        have A49 := Aside0.mk A490
        clear A490
        replace H := Option.bind_eq_some_iff.mp H
        obtain ⟨t986, A500, H⟩ := H
        replace H : (some ((t984.toList == t985.toList) == t986)) = some r := H
        have A50 := Aside0.mk A500
        clear A500
        obtain rfl := Option.some.inj H
        try go_wp2
        have n0_ := Aside0.mk (blk_drew BK976.out)
        have n1_ := Aside0.mk (blk_drew BK977.out)
        have n2_ := Aside0.mk (below_drew1 HB.out)
        clear BK976
        clear BK977
        clear HB
        have BK976 := n0_
        have BK977 := n1_
        have HB := n2_
        clear n0_ n1_ n2_
        refine start_ (n := 12) (S := fun w' => w'.cell? ⟨gb976, 0, none⟩ = some (.int .i64 a0_0) ∧ w'.cell? ⟨gb976, 1, none⟩ = some (.int .i64 a0_1) ∧ w'.cell? ⟨gb976, 2, none⟩ = some (.string a0_2) ∧ w'.cell? ⟨gb976, 3, none⟩ = some (.string a0_3) ∧ w'.cell? ⟨gb976, 4, none⟩ = some (.slice A0_4 l0_4.length c0_4) ∧ w'.cell? ⟨gb977, 0, none⟩ = some (.int .i64 a1_0) ∧ w'.cell? ⟨gb977, 1, none⟩ = some (.int .i64 a1_1) ∧ w'.cell? ⟨gb977, 2, none⟩ = some (.string a1_2) ∧ w'.cell? ⟨gb977, 3, none⟩ = some (.string a1_3) ∧ w'.cell? ⟨gb977, 4, none⟩ = some (.slice A1_4 l1_4.length c1_4)) (ds := []) #[false, false, false, false, false, false, false, false, false, false, false, false] (by kernel_rfl) rfl rfl ⟨(blk_cell BK976.out 0).trans rfl, (blk_cell BK976.out 1).trans rfl, (blk_cell BK976.out 2).trans rfl, (blk_cell BK976.out 3).trans rfl, (blk_cell BK976.out 4).trans rfl, (blk_cell BK977.out 0).trans rfl, (blk_cell BK977.out 1).trans rfl, (blk_cell BK977.out 2).trans rfl, (blk_cell BK977.out 3).trans rfl, (blk_cell BK977.out 4).trans rfl⟩ (fun hHeld => ?_); refine with_tabW dasdlaw07_LabelOther.tab3 dasdlaw07_LabelOther.bits3 (fun HT_ HW_ => ?_)
        generalize wc.drew = w51 at BK976 BK977 HB hHeld ⊢
        refine pure_ (i := 1) (N := some 33) (v := ?_) (a' := ?_) #[false, true, false, false, false, false, false, false, false, false, false, false] rfl rfl (any_of HT_.out (by kernel_rfl)) (fun _ _ _ h => h) (Or.inl ⟨by rfl, ?_⟩) ?_ ?_
        rotate_left
        · intro w'
          go_simp
          with_reducible rfl
        rotate_left
        · simp only [Act.put, List.setIfInBounds_toArray, List.set_cons_zero, List.set_cons_succ, i64_w, i32_w]
          rfl
        refine pure_ (i := 4) (N := some 36) (v := ?_) (a' := ?_) #[false, true, false, false, true, false, false, false, false, false, false, false] rfl rfl (any_of HT_.out (by kernel_rfl)) (fun _ _ _ h => h) (Or.inl ⟨by rfl, ?_⟩) ?_ ?_
        rotate_left
        · intro w'
          go_simp
          with_reducible rfl
        rotate_left
        · simp only [Act.put, List.setIfInBounds_toArray, List.set_cons_zero, List.set_cons_succ, i64_w, i32_w]
          rfl
        refine take_ (i := 0) (N := some 32) (v := ?_) (a' := ?_) #[true, true, false, false, true, false, false, false, false, false, false, false] rfl rfl (take_ofW HT_.out HW_.out (by kernel_rfl)) (fun _ _ _ h => h) (Or.inl ⟨by rfl, ?_⟩) hHeld ?_ ?_
        rotate_left
        · rintro w' ⟨s0, s1, s2, s3, s4, s5, s6, s7, s8, s9⟩
          go_simp
          with_reducible rfl
        rotate_left
        · simp only [Act.put, List.setIfInBounds_toArray, List.set_cons_zero, List.set_cons_succ, i64_w, i32_w]
          rfl
        refine take_ (i := 3) (N := some 35) (v := ?_) (a' := ?_) #[true, true, false, true, true, false, false, false, false, false, false, false] rfl rfl (take_ofW HT_.out HW_.out (by kernel_rfl)) (fun _ _ _ h => h) (Or.inl ⟨by rfl, ?_⟩) hHeld ?_ ?_
        rotate_left
        · rintro w' ⟨s0, s1, s2, s3, s4, s5, s6, s7, s8, s9⟩
          go_simp
          with_reducible rfl
        rotate_left
        · simp only [Act.put, List.setIfInBounds_toArray, List.set_cons_zero, List.set_cons_succ, i64_w, i32_w]
          rfl
        refine take_ (i := 7) (N := some 39) (v := ?_) (a' := ?_) #[true, true, false, true, true, false, false, true, false, false, false, false] rfl rfl (take_ofW HT_.out HW_.out (by kernel_rfl)) (fun _ _ _ h => h) (Or.inl ⟨by rfl, ?_⟩) hHeld ?_ ?_
        rotate_left
        · rintro w' ⟨s0, s1, s2, s3, s4, s5, s6, s7, s8, s9⟩
          go_simp
          with_reducible rfl
        rotate_left
        · simp only [Act.put, List.setIfInBounds_toArray, List.set_cons_zero, List.set_cons_succ, i64_w, i32_w]
          rfl
        refine take_ (i := 8) (N := some 40) (v := ?_) (a' := ?_) #[true, true, false, true, true, false, false, true, true, false, false, false] rfl rfl (take_ofW HT_.out HW_.out (by kernel_rfl)) (fun _ _ _ h => h) (Or.inl ⟨by rfl, ?_⟩) hHeld ?_ ?_
        rotate_left
        · rintro w' ⟨s0, s1, s2, s3, s4, s5, s6, s7, s8, s9⟩
          go_simp
          with_reducible rfl
        rotate_left
        · simp only [Act.put, List.setIfInBounds_toArray, List.set_cons_zero, List.set_cons_succ, i64_w, i32_w]
          rfl
        refine one_ (i := 2) (N := some 34) #[true, true, true, true, true, false, false, true, true, false, false, false] rfl rfl (one_of HT_.out (by kernel_rfl)) (by decide) (fun K hK => ?_)
        refine goes_ Try.func59 (by kernel_rfl) rfl #[.agg #[.int .i64 a0_0, .int .i64 a0_1, .string a0_2, .string a0_3, .slice A0_4 l0_4.length c0_4], .int .i64 a2] (by rfl) rfl rfl (by (try simp only [List.map_toArray, List.map_cons, List.map_nil]); first | done | rfl | (simp only [List.length_drop, List.length_take]; rfl)) ?_
        with_reducible refine (label_Encode.calls kj3 a0_0 a0_1 a0_2 a0_3 _ _ l0_4 a2 t984 _ ?side1 ?side2 A48.out).mono ?_
        (case side1 => repeat (first | exact (Kd.C_below HR0_4.out HB.out) | (with_reducible refine Kd.C_alloc ?_ _) | (with_reducible refine Kd.C_drewN ?_ _) | (with_reducible refine Kd.C_drew ?_)))
        (case side2 => exact HC0_4.out)
        rintro e w52 ⟨rfl, hb⟩
        refine ⟨_, rfl, ?_⟩
        have n0_ := Aside0.mk (blk_below (g := gb976) (o := .cells #[.int .i64 a0_0, .int .i64 a0_1, .string a0_2, .string a0_3, .slice A0_4 l0_4.length c0_4] 55 (0, 0)) (by (with_reducible repeat (first | refine blk_drewN ?_ _ | refine blk_drew ?_ | refine blk_alloc ?_ _)); exact BK976.out) hb)
        have n1_ := Aside0.mk (blk_below (g := gb977) (o := .cells #[.int .i64 a1_0, .int .i64 a1_1, .string a1_2, .string a1_3, .slice A1_4 l1_4.length c1_4] 55 (0, 0)) (by (with_reducible repeat (first | refine blk_drewN ?_ _ | refine blk_drew ?_ | refine blk_alloc ?_ _)); exact BK977.out) hb)
        have n2_ := Aside0.mk (below_step (by repeat (first | (with_reducible first | exact HB.out | apply below_alloc | apply pw_below_drewN | apply below_drew1 | refine below_set ?_ GE976.out | refine below_set ?_ GE977.out) | exact HB.out)) hb)
        clear BK976
        clear BK977
        clear HB
        have BK976 := n0_
        have BK977 := n1_
        have HB := n2_
        clear n0_ n1_ n2_
        (try clear hb)
        (try clear hb2)
        (try clear hk)
        (try clear hi)
        refine hK.out _ _ ⟨(blk_cell BK976.out 0).trans rfl, (blk_cell BK976.out 1).trans rfl, (blk_cell BK976.out 2).trans rfl, (blk_cell BK976.out 3).trans rfl, (blk_cell BK976.out 4).trans rfl, (blk_cell BK977.out 0).trans rfl, (blk_cell BK977.out 1).trans rfl, (blk_cell BK977.out 2).trans rfl, (blk_cell BK977.out 3).trans rfl, (blk_cell BK977.out 4).trans rfl⟩ (fun hHeld => ?_)
        clear hK K
        refine norm_ (a' := ?_) ?_ ?_
        rotate_left
        · show Act.put _ (some 34) _ = _
          simp only [Act.put, List.setIfInBounds_toArray, List.set_cons_zero, List.set_cons_succ, i64_w, i32_w]
          rfl
        refine one_ (i := 5) (N := some 37) #[true, true, true, true, true, true, false, true, true, false, false, false] rfl rfl (one_of HT_.out (by kernel_rfl)) (by decide) (fun K hK => ?_)
        refine goes_ Try.func59 (by kernel_rfl) rfl #[.agg #[.int .i64 a1_0, .int .i64 a1_1, .string a1_2, .string a1_3, .slice A1_4 l1_4.length c1_4], .int .i64 a2] (by rfl) rfl rfl (by (try simp only [List.map_toArray, List.map_cons, List.map_nil]); first | done | rfl | (simp only [List.length_drop, List.length_take]; rfl)) ?_
        with_reducible refine (label_Encode.calls kj3 a1_0 a1_1 a1_2 a1_3 _ _ l1_4 a2 t985 _ ?side1 ?side2 A49.out).mono ?_
        (case side1 => repeat (first | exact (Kd.C_below HR1_4.out HB.out) | (with_reducible refine Kd.C_alloc ?_ _) | (with_reducible refine Kd.C_drewN ?_ _) | (with_reducible refine Kd.C_drew ?_)))
        (case side2 => exact HC1_4.out)
        rintro e w53 ⟨rfl, hb⟩
        refine ⟨_, rfl, ?_⟩
        have n0_ := Aside0.mk (blk_below (g := gb976) (o := .cells #[.int .i64 a0_0, .int .i64 a0_1, .string a0_2, .string a0_3, .slice A0_4 l0_4.length c0_4] 55 (0, 0)) (by (with_reducible repeat (first | refine blk_drewN ?_ _ | refine blk_drew ?_ | refine blk_alloc ?_ _)); exact BK976.out) hb)
        have n1_ := Aside0.mk (blk_below (g := gb977) (o := .cells #[.int .i64 a1_0, .int .i64 a1_1, .string a1_2, .string a1_3, .slice A1_4 l1_4.length c1_4] 55 (0, 0)) (by (with_reducible repeat (first | refine blk_drewN ?_ _ | refine blk_drew ?_ | refine blk_alloc ?_ _)); exact BK977.out) hb)
        have n2_ := Aside0.mk (below_step (by repeat (first | (with_reducible first | exact HB.out | apply below_alloc | apply pw_below_drewN | apply below_drew1 | refine below_set ?_ GE976.out | refine below_set ?_ GE977.out) | exact HB.out)) hb)
        clear BK976
        clear BK977
        clear HB
        have BK976 := n0_
        have BK977 := n1_
        have HB := n2_
        clear n0_ n1_ n2_
        (try clear hb)
        (try clear hb2)
        (try clear hk)
        (try clear hi)
        refine hK.out _ _ ⟨(blk_cell BK976.out 0).trans rfl, (blk_cell BK976.out 1).trans rfl, (blk_cell BK976.out 2).trans rfl, (blk_cell BK976.out 3).trans rfl, (blk_cell BK976.out 4).trans rfl, (blk_cell BK977.out 0).trans rfl, (blk_cell BK977.out 1).trans rfl, (blk_cell BK977.out 2).trans rfl, (blk_cell BK977.out 3).trans rfl, (blk_cell BK977.out 4).trans rfl⟩ (fun hHeld => ?_)
        clear hK K
        refine norm_ (a' := ?_) ?_ ?_
        rotate_left
        · show Act.put _ (some 37) _ = _
          simp only [Act.put, List.setIfInBounds_toArray, List.set_cons_zero, List.set_cons_succ, i64_w, i32_w]
          rfl
        refine pure_ (i := 6) (N := some 38) (v := ?_) (a' := ?_) #[true, true, true, true, true, true, true, true, true, false, false, false] rfl rfl (any_of HT_.out (by kernel_rfl)) (fun _ _ _ h => h) (Or.inl ⟨by rfl, ?_⟩) ?_ ?_
        rotate_left
        · intro w'
          go_simp
          with_reducible rfl
        rotate_left
        · simp only [Act.put, List.setIfInBounds_toArray, List.set_cons_zero, List.set_cons_succ, i64_w, i32_w]
          rfl
        refine one_ (i := 9) (N := some 41) #[true, true, true, true, true, true, true, true, true, true, false, false] rfl rfl (one_of HT_.out (by kernel_rfl)) (by decide) (fun K hK => ?_)
        refine goes_ Try.func60 (by kernel_rfl) rfl #[.agg #[.int .i64 a0_0, .int .i64 a0_1, .string a0_2, .string a0_3, .slice A0_4 l0_4.length c0_4], .agg #[.int .i64 a1_0, .int .i64 a1_1, .string a1_2, .string a1_3, .slice A1_4 l1_4.length c1_4]] (by rfl) rfl rfl (by (try simp only [List.map_toArray, List.map_cons, List.map_nil]); first | done | rfl | (simp only [List.length_drop, List.length_take]; rfl)) ?_
        with_reducible refine (label_Equal.calls kj3 a0_0 a0_1 a0_2 a0_3 _ _ l0_4 a1_0 a1_1 a1_2 a1_3 _ _ l1_4 t986 _ ?side1 ?side2 ?side3 ?side4 A50.out).mono ?_
        (case side1 => repeat (first | exact (Kd.C_below HR0_4.out HB.out) | (with_reducible refine Kd.C_alloc ?_ _) | (with_reducible refine Kd.C_drewN ?_ _) | (with_reducible refine Kd.C_drew ?_)))
        (case side2 => exact HC0_4.out)
        (case side3 => repeat (first | exact (Kd.C_below HR1_4.out HB.out) | (with_reducible refine Kd.C_alloc ?_ _) | (with_reducible refine Kd.C_drewN ?_ _) | (with_reducible refine Kd.C_drew ?_)))
        (case side4 => exact HC1_4.out)
        rintro e w54 ⟨rfl, hb⟩
        refine ⟨_, rfl, ?_⟩
        have n0_ := Aside0.mk (blk_below (g := gb976) (o := .cells #[.int .i64 a0_0, .int .i64 a0_1, .string a0_2, .string a0_3, .slice A0_4 l0_4.length c0_4] 55 (0, 0)) (by (with_reducible repeat (first | refine blk_drewN ?_ _ | refine blk_drew ?_ | refine blk_alloc ?_ _)); exact BK976.out) hb)
        have n1_ := Aside0.mk (blk_below (g := gb977) (o := .cells #[.int .i64 a1_0, .int .i64 a1_1, .string a1_2, .string a1_3, .slice A1_4 l1_4.length c1_4] 55 (0, 0)) (by (with_reducible repeat (first | refine blk_drewN ?_ _ | refine blk_drew ?_ | refine blk_alloc ?_ _)); exact BK977.out) hb)
        have n2_ := Aside0.mk (below_step (by repeat (first | (with_reducible first | exact HB.out | apply below_alloc | apply pw_below_drewN | apply below_drew1 | refine below_set ?_ GE976.out | refine below_set ?_ GE977.out) | exact HB.out)) hb)
        clear BK976
        clear BK977
        clear HB
        have BK976 := n0_
        have BK977 := n1_
        have HB := n2_
        clear n0_ n1_ n2_
        (try clear hb)
        (try clear hb2)
        (try clear hk)
        (try clear hi)
        refine hK.out _ _ ⟨(blk_cell BK976.out 0).trans rfl, (blk_cell BK976.out 1).trans rfl, (blk_cell BK976.out 2).trans rfl, (blk_cell BK976.out 3).trans rfl, (blk_cell BK976.out 4).trans rfl, (blk_cell BK977.out 0).trans rfl, (blk_cell BK977.out 1).trans rfl, (blk_cell BK977.out 2).trans rfl, (blk_cell BK977.out 3).trans rfl, (blk_cell BK977.out 4).trans rfl⟩ (fun hHeld => ?_)
        clear hK K
        refine norm_ (a' := ?_) ?_ ?_
        rotate_left
        · show Act.put _ (some 41) _ = _
          simp only [Act.put, List.setIfInBounds_toArray, List.set_cons_zero, List.set_cons_succ, i64_w, i32_w]
          rfl
        refine pure_ (i := 10) (N := some 42) (v := ?_) (a' := ?_) #[true, true, true, true, true, true, true, true, true, true, true, false] rfl rfl (any_of HT_.out (by kernel_rfl)) (fun _ _ _ h => h) (Or.inl ⟨by rfl, ?_⟩) ?_ ?_
        rotate_left
        · intro w'
          go_simp
          with_reducible rfl
        rotate_left
        · simp only [Act.put, List.setIfInBounds_toArray, List.set_cons_zero, List.set_cons_succ, i64_w, i32_w]
          rfl
        refine pure_ (i := 11) (N := some 6) (v := ?_) (a' := ?_) #[true, true, true, true, true, true, true, true, true, true, true, true] rfl rfl (any_of HT_.out (by kernel_rfl)) (fun _ _ _ h => h) (Or.inl ⟨by rfl, ?_⟩) ?_ ?_
        rotate_left
        · intro w'
          go_simp
          with_reducible rfl
        rotate_left
        · simp only [Act.put, List.setIfInBounds_toArray, List.set_cons_zero, List.set_cons_succ, i64_w, i32_w]
          rfl
        refine done_ (done_of HT_.out (by kernel_rfl)) ?_
        try go_wp2
        go_ret
        exact ⟨by first | rfl | (simp [errW_none, errW_some] <;> rfl) | (simp [*, errW_none, errW_some] <;> rfl), by repeat (first | (with_reducible first | exact HB.out | apply below_alloc | apply pw_below_drewN | apply below_drew1 | refine below_set ?_ GE976.out | refine below_set ?_ GE977.out) | exact HB.out)⟩

end Go.Proofs.Ytegefemkmdlmaaa.P
