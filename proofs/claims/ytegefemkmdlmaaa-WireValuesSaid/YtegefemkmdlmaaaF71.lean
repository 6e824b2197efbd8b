/- The contract of wire_Reader_Number. -/
import Derived.Test.YtegefemkmdlmaaaF0
import Derived.Test.YtegefemkmdlmaaaF2110
import Derived.Test.YtegefemkmdlmaaaF104
import Derived.Test.YtegefemkmdlmaaaDec
namespace Go.Proofs.Ytegefemkmdlmaaa.P
open Go.RowKit Go.Proofs.YtegefemkmdlmaaaW.PrintWords Go.Proofs.YtegefemkmdlmaaaW.PrintLast Go.Proofs.YtegefemkmdlmaaaW.PrintMore
set_option linter.unusedVariables false
set_option linter.unusedSimpArgs false
set_option maxRecDepth 100000 in
set_option maxHeartbeats 2000000 in
theorem number1 (s : ByteArray) (q : Nat) (x : Int) (w : World) (hc : w.heap[q]? = some (.cells #[.int .u64 x] 22 (0, 0))) :
    Calls Try.prog 109 #[.string s, .pointer (some ⟨q, 0, none⟩)] w fun e w' => e = .returned (.int .i64 (decB s).2) ∧ ∃ m, w' = (w.drewN m).setCell ⟨q, 0, none⟩ (.int .u64 (decB s).1) := by
  have hc0 : w.cell? ⟨q, 0, none⟩ = some (.int .u64 x) := (blk_cell hc 0).trans rfl
  have hf0 := blk_frozen hc 0
  go_enter Try.func109, Try.ntmps109
  go_wp2_with (go_at_call 110; refine (wire_decode.calls 33 s (decB s).1 (decB s).2 _ (decode_eq s)).mono ?_; rintro e w1 ⟨rfl, ⟨m, rfl⟩⟩)
  go_ret
  exact ⟨rfl, m, rfl⟩
set_option maxRecDepth 100000 in
set_option maxHeartbeats 4000000 in
theorem wire_Reader_Number.calls (g : Nat) (s0_0 : ByteArray) (s0_1 : Int) (r1 : Int) (r2 : ByteArray) (r3 : Int) (w0 w : World) (hI : IsS110 w0 w g s0_0 s0_1) (hB : Below w0.heap.size w0 w) (h : wire_Reader_Number.f s0_0 s0_1 = some (r1, r2, r3)) :
    Calls Try.prog 71 #[.pointer (some ⟨g, 0, none⟩)] w fun e w' => e = .returned (.int .u64 r1) ∧ IsS110 w0 w' g r2 r3 ∧ Below w0.heap.size w0 w' ∧ KeepBut w w' g none := by
  have hmf : ∀ (fn : Fn) (first cap : Array Value) (w : World), (Instr.makeFunc fn first cap).run Try.prog w = .ok (.func fn first cap) w := fun _ _ _ _ => rfl
  have HI0 := Aside0.mk hI
  have HK := Aside0.mk (KeepBut.refl w g none)
  have hlt := IsS110.lt hI
  have hge := IsS110.ge hI
  clear hI
  have HB := Aside0.mk hB
  clear hB
  obtain ⟨HGz4, hgz4⟩ := HI0.out
  have hcz4_0 := cellS110_0 HGz4
  have hcz4_1 := cellS110_1 HGz4
  have hfz4_0 := blk_frozen HGz4 0
  have hfz4_1 := blk_frozen HGz4 1
  have HG := Aside0.mk HGz4
  clear HGz4 hgz4
  unfold wire_Reader_Number.f at h
  by_cases h0 : s0_1 = 0
  · rw [if_pos h0] at h
    have c1 : (s0_1 == 0) = true := beq_iff_eq.mpr h0
    have c2 : (s0_1 != 0) = false := bne_eq_false_iff_eq.mpr h0
    have H0 := Aside0.mk h0
    clear h0
    have hbd := decB_bound s0_0
    have hq : (w.alloc (.cells #[.int .u64 0] 22)).heap[w.heap.size]? = some (.cells #[.int .u64 0] 22 (0, 0)) := heap_alloc_new w _
    have hne : ¬ w.heap.size = g := by omega
    by_cases hz : (decB s0_0).2 = 0
    · rw [if_pos hz] at h
      simp only [Option.some.injEq, Prod.mk.injEq] at h
      obtain ⟨rfl, rfl, rfl⟩ := h
      have hz1 : ((decB s0_0).2 == 0) = true := beq_iff_eq.mpr hz
      clear hz hbd
      go_enter Try.func71, Try.ntmps71
      go_wp2_with (first | (go_at_call 108; go_in) | (go_at_call 109; refine (number1 s0_0 w.heap.size 0 _ hq).mono ?_; rintro e w1 ⟨rfl, ⟨m, rfl⟩⟩) | (go_at_call 104; go_in))
      first | go_end0 | ((try simp only [Exit.inBlock, Exit.then]); refine bodyPost_ret (results_none rfl _ _ _) rfl ?_)
      go_wp2
      first | go_end0 | ((try simp only [Exit.inBlock, Exit.then]); refine bodyPost_ret (results_none rfl _ _ _) rfl ?_)
      go_wp2
      go_ret
      refine ⟨rfl, ?_, ?_, ?_⟩
      · exact ((((HI0.out.alloc (.cells #[.int .u64 0] 22)).drewN m).far (p := ⟨w.heap.size, 0, none⟩) (fun e => hne e.symm) (.int .u64 (decB s0_0).1)).set_1 11).set_0 ⟨#[]⟩
      · exact below_set (below_set (below_set (pw_below_drewN (below_alloc HB.out _) m) (Nat.le_trans HB.out.size (Nat.le_refl _))) hge) hge
      · exact (((keep_far (keep_drewN (keep_alloc HK.out _) m) (Nat.le_refl _) _).set_ 1 _).set_ 0 _)
    · rw [if_neg hz] at h
      simp only [Option.some.injEq, Prod.mk.injEq] at h
      obtain ⟨rfl, rfl, rfl⟩ := h
      have hz1 : ((decB s0_0).2 == 0) = false := beq_eq_false_iff_ne.mpr hz
      have hk0 : 0 ≤ (decB s0_0).2 := by omega
      have hk1 : (decB s0_0).2 ≤ s0_0.size := by omega
      clear hz hbd
      go_enter Try.func71, Try.ntmps71
      go_wp2_with (first | (go_at_call 108; go_in) | (go_at_call 109; refine (number1 s0_0 w.heap.size 0 _ hq).mono ?_; rintro e w1 ⟨rfl, ⟨m, rfl⟩⟩))
      go_end0
      go_wp2
      go_ret
      refine ⟨rfl, ?_, ?_, ?_⟩
      · have hi := (((HI0.out.alloc (.cells #[.int .u64 0] 22)).drewN m).far (p := ⟨w.heap.size, 0, none⟩) (fun e => hne e.symm) (.int .u64 (decB s0_0).1)).set_0 (s0_0.extract (decB s0_0).2.toNat s0_0.size)
        rw [H0.out] at hi
        exact hi
      · exact below_set (below_set (pw_below_drewN (below_alloc HB.out _) m) (Nat.le_trans HB.out.size (Nat.le_refl _))) hge
      · exact ((keep_far (keep_drewN (keep_alloc HK.out _) m) (Nat.le_refl _) _).set_ 0 _)
  · rw [if_neg h0] at h
    simp only [Option.some.injEq, Prod.mk.injEq] at h
    obtain ⟨rfl, rfl, rfl⟩ := h
    have c1 : (s0_1 == 0) = false := beq_eq_false_iff_ne.mpr h0
    have c2 : (s0_1 != 0) = true := bne_iff_ne.mpr h0
    clear h0
    go_enter Try.func71, Try.ntmps71
    go_wp2
    first | go_end0 | ((try simp only [Exit.inBlock, Exit.then]); refine bodyPost_ret (results_none rfl _ _ _) rfl ?_)
    go_wp2
    go_ret
    exact ⟨rfl, HI0.out.alloc _, below_alloc HB.out _, keep_alloc HK.out _⟩
end Go.Proofs.Ytegefemkmdlmaaa.P
