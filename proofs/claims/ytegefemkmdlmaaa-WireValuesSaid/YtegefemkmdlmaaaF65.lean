/- The contract of wire_Reader_End. -/
import Derived.Test.YtegefemkmdlmaaaF0
import Derived.Test.YtegefemkmdlmaaaF2110
import Derived.Test.YtegefemkmdlmaaaEnc2
namespace Go.Proofs.Ytegefemkmdlmaaa.P
open Go.RowKit Go.Proofs.YtegefemkmdlmaaaW.PrintWords Go.Proofs.YtegefemkmdlmaaaW.PrintLast Go.Proofs.YtegefemkmdlmaaaW.PrintMore
set_option linter.unusedVariables false
set_option linter.unusedSimpArgs false
theorem open_end (s : ByteArray) : ((!s.toList.isEmpty) = true → s.size ≠ 0) ∧ ((!s.toList.isEmpty) = false → s.size = 0) := by
  have e : s.toList.isEmpty = decide (s.size = 0) := by
    rw [ByteArray.toList_eq]
    obtain ⟨⟨l⟩⟩ := s
    cases l with
    | nil => rfl
    | cons a l => simp [ByteArray.size]
  rw [e]
  simp
set_option maxRecDepth 100000 in
set_option maxHeartbeats 2000000 in
theorem wire_Reader_End.calls (g : Nat) (s0_0 : ByteArray) (s0_1 : Int) (r1 : Int) (r2 : ByteArray) (r3 : Int) (w0 w : World) (hI : IsS110 w0 w g s0_0 s0_1) (hB : Below w0.heap.size w0 w) (h : wire_Reader_End.f s0_0 s0_1 = some (r1, r2, r3)) :
    Calls Try.prog 65 #[.pointer (some ⟨g, 0, none⟩)] w fun e w' => e = .returned (.int .i64 r1) ∧ IsS110 w0 w' g r2 r3 ∧ Below w0.heap.size w0 w' ∧ KeepBut w w' g none := by
  simp only [wire_Reader_End.f, Option.some.injEq, Prod.mk.injEq] at h
  obtain ⟨he, rfl, rfl⟩ := h
  have HE := Aside0.mk he
  clear he
  have hmf : ∀ (fn : Fn) (first cap : Array Value) (w : World), (Instr.makeFunc fn first cap).run Try.prog w = .ok (.func fn first cap) w := fun _ _ _ _ => rfl
  have HI0 := Aside0.mk hI
  have HK := Aside0.mk (KeepBut.refl w g none)
  clear hI
  have HB := Aside0.mk hB
  clear hB
  obtain ⟨HGz4, hgz4⟩ := HI0.out
  have hcz4_0 := cellS110_0 HGz4
  have hcz4_1 := cellS110_1 HGz4
  clear HGz4 hgz4
  by_cases h0 : s0_1 = 0
  · have c1 : (s0_1 == 0) = true := beq_iff_eq.mpr h0
    have c2 : (s0_1 != 0) = false := bne_eq_false_iff_eq.mpr h0
    have H0 := Aside0.mk h0
    clear h0
    go_enter Try.func65, Try.ntmps65
    go_wp2
    · have hs : (!s0_0.toList.isEmpty) = true := by assumption
      have hz := (open_end s0_0).1 hs
      have he := HE.out
      rw [if_pos ⟨H0.out, hz⟩] at he
      subst he
      go_ret
      exact ⟨rfl, HI0.out, HB.out, HK.out⟩
    · have hs : (!s0_0.toList.isEmpty) = false := by assumption
      have hz := (open_end s0_0).2 hs
      have he := HE.out
      rw [if_neg (fun h => h.2 hz)] at he
      subst he
      go_ret
      exact ⟨rfl, HI0.out, HB.out, HK.out⟩
  · have c1 : (s0_1 == 0) = false := beq_eq_false_iff_ne.mpr h0
    have c2 : (s0_1 != 0) = true := bne_iff_ne.mpr h0
    have he := HE.out
    rw [if_neg (fun h => h0 h.1)] at he
    clear h0 HE
    subst he
    go_enter Try.func65, Try.ntmps65
    go_wp2
    go_ret
    exact ⟨rfl, HI0.out, HB.out, HK.out⟩
end Go.Proofs.Ytegefemkmdlmaaa.P
