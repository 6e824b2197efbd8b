/- The contract of extent.mix: it returns the normal form of the tracks that two sets say with a table. -/
import Derived.Lib.Hide
import Derived.Outline
import Derived.StillTailTactics
import Derived.Test.YtegefemkmdlmaaaF0
import Derived.Test.YtegefemkmdlmaaaGb
namespace Go.Proofs.Ytegefemkmdlmaaa.P
open Go.RowKit Go.Proofs.YtegefemkmdlmaaaW.PrintWords Go.Proofs.YtegefemkmdlmaaaW.PrintLast Go.Proofs.YtegefemkmdlmaaaW.PrintMore
set_option linter.unusedVariables false
set_option linter.unusedSimpArgs false
theorem bit_true (w : World) : Calls Try.prog 123 #[.bool true] w fun e w' => e = .returned (.int .i64 1) ∧ w' = w := by
  go_enter Try.func123, Try.ntmps123
  go_wp2
  go_ret
  exact ⟨rfl, rfl⟩
theorem bit_false (w : World) : Calls Try.prog 123 #[.bool false] w fun e w' => e = .returned (.int .i64 0) ∧ w' = w := by
  go_enter Try.func123, Try.ntmps123
  go_wp2
  go_ret
  exact ⟨rfl, rfl⟩
/-- The four cells of a table. -/
def tab4 (f : Bool → Bool → Bool) : Array Value := #[.bool (f false false), .bool (f false true), .bool (f true false), .bool (f true true)]
/-- What the loop keeps: behind i tracks. -/
def MixInv (w : World) (f : Bool → Bool → Bool) (x y : Nat → Bool) (gt gx gy gs : Nat) (k : Value) (wr : World) : Prop :=
  ∃ i : Nat, i ≤ 128 ∧ k = .int .i64 i ∧ wr.heap[gt]? = some (.cells (tab4 f) 114 (0, 0)) ∧ wr.heap[gx]? = some (.cells (rowB x) 106 (0, 0)) ∧
    wr.heap[gy]? = some (.cells (rowB y) 106 (0, 0)) ∧ wr.heap[gs]? = some (.cells (rowB fun t => decide (t < i) && f (x t) (y t)) 106 (0, 0)) ∧ Below w.heap.size w wr
theorem rowM_start (z : Nat → Bool) : (rowB fun t => decide (t < 0) && z t) = rowB fun _ => false := rowB_ext fun t _ => by simp
theorem rowM_step (z : Nat → Bool) (i : Nat) (v : Bool) (hv : v = z i) : (rowB fun t => decide (t < i) && z t).setIfInBounds i (.bool v) = rowB fun t => decide (t < i + 1) && z t := by
  rw [rowB_set]
  apply rowB_ext
  intro t ht
  by_cases e : t = i
  · subst e; simp [hv]
  · rw [if_neg e]
    congr 1
    rw [decide_eq_decide]; omega
set_option maxRecDepth 100000 in
set_option maxHeartbeats 8000000 in
theorem mix_any (f : Bool → Bool → Bool) (A0 : Option Addr) (c0 : Nat) (l0 : List (S103)) (A1 : Option Addr) (c1 : Nat) (l1 : List (S103)) (w : World) (hr0 : Kd.C k103 w A0 l0.length l0) (hr1 : Kd.C k103 w A1 l1.length l1)
    (hok0 : okL l0 = true) (hok1 : okL l1 = true) :
    Calls Try.prog 106 #[.slice A0 l0.length c0, .slice A1 l1.length c1, .agg (tab4 f)] w fun e w' => ∃ v0_ : Value, e = .returned (v0_) ∧ Kd.R k103 103 w' w.heap.size (fun _ => True) v0_ (runsOf fun t => f (inL l0 t) (inL l1 t)) ∧ Below w.heap.size w w' := by
  have hz := zero106.1
  have HI := Aside0.mk zero106.2
  have HR0 := Aside0.mk hr0
  have HR1 := Aside0.mk hr1
  have HOK0 := Aside0.mk hok0
  have HOK1 := Aside0.mk hok1
  clear hr0 hok0 hr1 hok1
  obtain ⟨T, hT⟩ : ∃ T, T = tab4 f := ⟨_, rfl⟩
  have HT := Lib.hid hT
  rw [← hT]
  clear hT
  have HB := Aside0.mk (Below.refl w.heap.size w)
  go_enter Try.func106, Try.ntmps106
  go_wp2_with (fail)
  have G0 := heap_alloc_new w (.cells T 114)
  have B0 := below_alloc HB.out (.cells T 114)
  refine (of_any A0 c0 l0 _ (Kd.C_alloc HR0.out _) HOK0.out).mono ?_
  rintro e w1 ⟨rfl, hb⟩
  have G1 := Aside0.mk (blk_below G0 hb)
  have B1 := Aside0.mk (below_step B0 hb)
  have R1 := Aside0.mk (Kd.C_below HR1.out B1.out)
  clear hb G0 B0
  go_wp2_with (fail)
  refine (of_any A1 c1 l1 _ R1.out HOK1.out).mono ?_
  rintro e w2 ⟨rfl, hb⟩
  have G2 := Aside0.mk (blk_below G1.out hb)
  have B2 := Aside0.mk (below_step B1.out hb)
  clear hb G1 B1 R1
  have L2 : w.heap.size < w2.heap.size := blk_lt G2.out
  have D1 := heap_alloc2_old w2 (.cells (rowB fun _ => false) 106) (.cells (rowB fun _ => false) 106)
  have D2 := (setRow_other ((w2.alloc (.cells (rowB fun _ => false) 106)).alloc (.cells (rowB fun _ => false) 106)) w2.heap.size (w2.heap.size + 1) (rowB fun t => inL l0 t) (by omega)).trans (heap_alloc2_new w2 (.cells (rowB fun _ => false) 106) (.cells (rowB fun _ => false) 106))
  have E1 := Aside0.mk D1
  have E2 := Aside0.mk D2
  clear D1 D2
  go_wp2_with (first
    | (refine wpList_store_row rfl 106 (.tmp 7) (.tmp 13) rfl w2.heap.size (rowB fun t => inL l0 t) rfl rfl 106 _ E1.out (by rw [rowB_size]; exact HI.out) (by rw [rowB_size, rowB_size]) (rowB_one _) ?_)
    | (refine wpList_store_row rfl 106 (.tmp 8) (.tmp 15) rfl (w2.heap.size + 1) (rowB fun t => inL l1 t) rfl rfl 106 _ E2.out (by rw [rowB_size]; exact HI.out) (by rw [rowB_size, rowB_size]) (rowB_one _) ?_))
  obtain ⟨ZB, hZB⟩ : ∃ o, o = Obj.cells (rowB fun _ => false) 106 := ⟨_, rfl⟩
  obtain ⟨XA, hXA⟩ : ∃ o, o = rowB fun t => inL l0 t := ⟨_, rfl⟩
  obtain ⟨YA, hYA⟩ : ∃ o, o = rowB fun t => inL l1 t := ⟨_, rfl⟩
  rw [← hZB, ← hXA, ← hYA]
  have W1 : (w2.alloc ZB).heap.size = w2.heap.size + 1 := by simp
  have W2 : ((w2.alloc ZB).alloc ZB).heap.size = w2.heap.size + 2 := by simp
  have P1 : ((w2.alloc ZB).alloc ZB).heap[w2.heap.size]? = some (.cells (rowB fun _ => false) 106 (0, 0)) := by rw [heap_alloc2_old, hZB]
  have P2 : ((w2.alloc ZB).alloc ZB).heap[w2.heap.size + 1]? = some (.cells (rowB fun _ => false) 106 (0, 0)) := by rw [heap_alloc2_new, hZB]
  have Q1 := setRow_heap _ w2.heap.size _ XA 106 (0, 0) P1
  have Q2 := (setRow_other ((w2.alloc ZB).alloc ZB) w2.heap.size (w2.heap.size + 1) XA (by omega)).trans P2
  have Q3 := setRow_heap _ (w2.heap.size + 1) _ YA 106 (0, 0) Q2
  have Q4 := (setRow_other (((w2.alloc ZB).alloc ZB).setRow w2.heap.size XA) (w2.heap.size + 1) w2.heap.size YA (by omega)).trans Q1
  have S2 : ((((w2.alloc ZB).alloc ZB).setRow w2.heap.size XA).setRow (w2.heap.size + 1) YA).heap.size = w2.heap.size + 2 := by simp
  have F1 := Aside0.mk (blk_alloc Q3 ZB)
  have F2 := Aside0.mk (blk_alloc Q4 ZB)
  have F3 := Aside0.mk (heap_alloc_new ((((w2.alloc ZB).alloc ZB).setRow w2.heap.size XA).setRow (w2.heap.size + 1) YA) ZB)
  have T1 := (setRow_other ((w2.alloc ZB).alloc ZB) w2.heap.size w.heap.size XA (by omega)).trans (blk_alloc (blk_alloc G2.out ZB) ZB)
  have F4 := Aside0.mk (blk_alloc ((setRow_other (((w2.alloc ZB).alloc ZB).setRow w2.heap.size XA) (w2.heap.size + 1) w.heap.size YA (by omega)).trans T1) ZB)
  have F5 := Aside0.mk (below_alloc (below_setRow (below_setRow (below_alloc (below_alloc B2.out ZB) ZB) (show w.heap.size ≤ w2.heap.size by omega) XA) (show w.heap.size ≤ w2.heap.size + 1 by omega) YA) ZB)
  rw [S2] at F3
  clear P1 P2 Q1 Q2 Q3 Q4 T1 S2 W1 W2 E1 E2 G2 B2 HB
  generalize ((((w2.alloc ZB).alloc ZB).setRow w2.heap.size XA).setRow (w2.heap.size + 1) YA).alloc ZB = w3 at F1 F2 F3 F4 F5 ⊢
  obtain ⟨gx, hgx⟩ : ∃ g, g = w2.heap.size := ⟨_, rfl⟩
  have e1 : w2.heap.size + 1 = gx + 1 := by rw [hgx]
  have e2 : w2.heap.size + 1 + 1 = gx + 2 := by rw [hgx]
  rw [e2, e1, ← hgx]
  rw [e1] at F1
  rw [← hgx] at F2 F3 L2
  rw [hXA] at F2
  rw [hYA] at F1
  rw [hZB] at F3
  rw [HT.out] at F4
  clear e1 e2 hgx hXA hYA hZB
  go_loopw [11, 16] (fun _ k wr => MixInv w f (fun t => inL l0 t) (fun t => inL l1 t) w.heap.size gx (gx + 1) (gx + 2) k wr) (fun _ k _ => 128 - (intOf k).toNat)
  case atStart => exact ⟨0, by omega, rfl, F4.out, F2.out, F1.out, by rw [rowM_start]; exact F3.out, F5.out⟩
  case round =>
    obtain ⟨i, hi, rfl, ht, hx, hy, hs, hbel⟩ := hrel
    have HB := Aside0.mk hbel
    have HTb := Aside0.mk ht
    have HX := Aside0.mk hx
    have HY := Aside0.mk hy
    have HS := Aside0.mk hs
    clear hbel ht hx hy hs F1 F2 F3 F4 F5
    by_cases hlt : i < 128
    · have cx := (blk_cell HX.out i).trans (rowB_get _ i hlt)
      have cy := (blk_cell HY.out i).trans (rowB_get _ i hlt)
      have cs := (blk_cell HS.out i).trans (rowB_get _ i hlt)
      have fs := blk_frozen HS.out i
      simp only [] at cx cy cs
      obtain ⟨vs, hvs⟩ : ∃ v, v = (decide (i < i) && f (inL l0 i) (inL l1 i)) := ⟨_, rfl⟩
      rw [← hvs] at cs
      clear hvs
      cases hxi : inL l0 i with
      | false =>
        cases hyi : inL l1 i with
        | false =>
          rw [hxi] at cx
          rw [hyi] at cy
          have ct : wr.cell? ⟨w.heap.size, 0, none⟩ = some (.bool (f false false)) := (blk_cell HTb.out 0).trans rfl
          have HXI := Lib.hid hxi
          have HYI := Lib.hid hyi
          clear hxi hyi
          go_wp2_with (fail)
          refine wp_region_still_tail 15 (by kernel_rfl) (by kernel_rfl) ?_
          simp only [List.take_succ_cons, List.take_zero, List.drop_succ_cons, List.drop_zero]
          repeat still_step
          still_call (bit_false _)
          repeat still_step
          still_call (bit_false _)
          repeat still_step
          refine wpStill_nil ?_
          change wpList _ _ _ _ _ wr.drew
          go_wp2
          go_roundw
          case rel =>
            refine ⟨i + 1, by omega, by go_num, ?_, ?_, ?_, ?_, ?_⟩
            · exact blk_far (w := wr) HTb.out (show w.heap.size ≠ gx + 2 by omega) _
            · exact blk_far (w := wr) HX.out (show gx ≠ gx + 2 by omega) _
            · exact blk_far (w := wr) HY.out (show gx + 1 ≠ gx + 2 by omega) _
            · exact (blk_set (w := wr) HS.out i (.bool (f false false))).trans (by rw [rowM_step (fun t => f (inL l0 t) (inL l1 t)) i _ (by rw [HXI.out, HYI.out])])
            · exact below_set (pw_below_drewN HB.out 1) (by omega)
          case measure => simp [intOf]; omega
        | true =>
          rw [hxi] at cx
          rw [hyi] at cy
          have ct : wr.cell? ⟨w.heap.size, 1, none⟩ = some (.bool (f false true)) := (blk_cell HTb.out 1).trans rfl
          have HXI := Lib.hid hxi
          have HYI := Lib.hid hyi
          clear hxi hyi
          go_wp2_with (fail)
          refine wp_region_still_tail 15 (by kernel_rfl) (by kernel_rfl) ?_
          simp only [List.take_succ_cons, List.take_zero, List.drop_succ_cons, List.drop_zero]
          repeat still_step
          still_call (bit_false _)
          repeat still_step
          still_call (bit_true _)
          repeat still_step
          refine wpStill_nil ?_
          change wpList _ _ _ _ _ wr.drew
          go_wp2
          go_roundw
          case rel =>
            refine ⟨i + 1, by omega, by go_num, ?_, ?_, ?_, ?_, ?_⟩
            · exact blk_far (w := wr) HTb.out (show w.heap.size ≠ gx + 2 by omega) _
            · exact blk_far (w := wr) HX.out (show gx ≠ gx + 2 by omega) _
            · exact blk_far (w := wr) HY.out (show gx + 1 ≠ gx + 2 by omega) _
            · exact (blk_set (w := wr) HS.out i (.bool (f false true))).trans (by rw [rowM_step (fun t => f (inL l0 t) (inL l1 t)) i _ (by rw [HXI.out, HYI.out])])
            · exact below_set (pw_below_drewN HB.out 1) (by omega)
          case measure => simp [intOf]; omega
      | true =>
        cases hyi : inL l1 i with
        | false =>
          rw [hxi] at cx
          rw [hyi] at cy
          have ct : wr.cell? ⟨w.heap.size, 2, none⟩ = some (.bool (f true false)) := (blk_cell HTb.out 2).trans rfl
          have HXI := Lib.hid hxi
          have HYI := Lib.hid hyi
          clear hxi hyi
          go_wp2_with (fail)
          refine wp_region_still_tail 15 (by kernel_rfl) (by kernel_rfl) ?_
          simp only [List.take_succ_cons, List.take_zero, List.drop_succ_cons, List.drop_zero]
          repeat still_step
          still_call (bit_true _)
          repeat still_step
          still_call (bit_false _)
          repeat still_step
          refine wpStill_nil ?_
          change wpList _ _ _ _ _ wr.drew
          go_wp2
          go_roundw
          case rel =>
            refine ⟨i + 1, by omega, by go_num, ?_, ?_, ?_, ?_, ?_⟩
            · exact blk_far (w := wr) HTb.out (show w.heap.size ≠ gx + 2 by omega) _
            · exact blk_far (w := wr) HX.out (show gx ≠ gx + 2 by omega) _
            · exact blk_far (w := wr) HY.out (show gx + 1 ≠ gx + 2 by omega) _
            · exact (blk_set (w := wr) HS.out i (.bool (f true false))).trans (by rw [rowM_step (fun t => f (inL l0 t) (inL l1 t)) i _ (by rw [HXI.out, HYI.out])])
            · exact below_set (pw_below_drewN HB.out 1) (by omega)
          case measure => simp [intOf]; omega
        | true =>
          rw [hxi] at cx
          rw [hyi] at cy
          have ct : wr.cell? ⟨w.heap.size, 3, none⟩ = some (.bool (f true true)) := (blk_cell HTb.out 3).trans rfl
          have HXI := Lib.hid hxi
          have HYI := Lib.hid hyi
          clear hxi hyi
          go_wp2_with (fail)
          refine wp_region_still_tail 15 (by kernel_rfl) (by kernel_rfl) ?_
          simp only [List.take_succ_cons, List.take_zero, List.drop_succ_cons, List.drop_zero]
          repeat still_step
          still_call (bit_true _)
          repeat still_step
          still_call (bit_true _)
          repeat still_step
          refine wpStill_nil ?_
          change wpList _ _ _ _ _ wr.drew
          go_wp2
          go_roundw
          case rel =>
            refine ⟨i + 1, by omega, by go_num, ?_, ?_, ?_, ?_, ?_⟩
            · exact blk_far (w := wr) HTb.out (show w.heap.size ≠ gx + 2 by omega) _
            · exact blk_far (w := wr) HX.out (show gx ≠ gx + 2 by omega) _
            · exact blk_far (w := wr) HY.out (show gx + 1 ≠ gx + 2 by omega) _
            · exact (blk_set (w := wr) HS.out i (.bool (f true true))).trans (by rw [rowM_step (fun t => f (inL l0 t) (inL l1 t)) i _ (by rw [HXI.out, HYI.out])])
            · exact below_set (pw_below_drewN HB.out 1) (by omega)
          case measure => simp [intOf]; omega
    · obtain rfl : i = 128 := by omega
      go_wp2_with (fail)
      refine (runs_any (fun t => decide (t < 128) && f (inL l0 t) (inL l1 t)) (gx + 2) _ HS.out).mono ?_
      rintro e w9 ⟨v, rfl, ho, hb⟩
      have n0_ := Aside0.mk (Kd.R_lower ho (below_size HB.out))
      have n1_ := Aside0.mk (below_step HB.out hb)
      clear ho hb
      rw [runsOf_congr (g := fun t => f (inL l0 t) (inL l1 t)) (fun i hi => by simp [hi])] at n0_
      go_wp2
      go_ret
      exact ⟨_, rfl, n0_.out, n1_.out⟩
end Go.Proofs.Ytegefemkmdlmaaa.P
