/- The contract of extent_Union. -/
import Derived.Test.YtegefemkmdlmaaaF0
import Derived.Test.YtegefemkmdlmaaaGb
import Derived.Test.YtegefemkmdlmaaaMix
namespace Go.Proofs.Ytegefemkmdlmaaa.P
open Go.RowKit Go.Proofs.YtegefemkmdlmaaaW.PrintWords Go.Proofs.YtegefemkmdlmaaaW.PrintLast Go.Proofs.YtegefemkmdlmaaaW.PrintMore
set_option linter.unusedVariables false
set_option linter.unusedSimpArgs false
set_option maxRecDepth 100000 in
set_option maxHeartbeats 4000000 in
theorem extent_Union.calls (A0 : Option Addr) (c0 : Nat) (l0 : List (S103)) (A1 : Option Addr) (c1 : Nat) (l1 : List (S103)) (r : List (S103)) (w : World) (hr0 : Kd.C k103 w A0 l0.length l0) (hc0 : l0.length ≤ c0) (hr1 : Kd.C k103 w A1 l1.length l1) (hc1 : l1.length ≤ c1) (h : extent_Union.f l0 l1 = some r) :
    Calls Try.prog 66 #[.slice A0 l0.length c0, .slice A1 l1.length c1] w fun e w' => ∃ v0_ : Value, e = .returned (v0_) ∧ Kd.R k103 103 w' w.heap.size (fun _ => True) v0_ r ∧ Below w.heap.size w w' := by
  unfold extent_Union.f mixF at h
  by_cases hok : okL l0 = true ∧ okL l1 = true
  · rw [if_pos hok] at h
    obtain rfl := Option.some.inj h
    clear h
    have HR0 := Aside0.mk hr0
    have HR1 := Aside0.mk hr1
    have HOK := Aside0.mk hok
    clear hr0 hr1 hok
    go_enter Try.func66, Try.ntmps66
    go_wp2_with (go_at_call 106; refine (mix_any (fun a b => a || b) A0 c0 l0 A1 c1 l1 _ HR0.out HR1.out HOK.out.1 HOK.out.2).mono ?_; rintro e w1 ⟨v, rfl, ho, hb⟩; have n0_ := Aside0.mk ho; have n1_ := Aside0.mk hb; clear ho hb)
    go_ret
    exact ⟨_, rfl, n0_.out, n1_.out⟩
  · rw [if_neg hok] at h
    exact absurd h (by simp)
end Go.Proofs.Ytegefemkmdlmaaa.P
