/- Plain laws: what Cut answers. -/
import Derived.Test.YtegefemkmdlmaaaF35
import Derived.Test.YtegefemkmdlmaaaGd
namespace Go.Proofs.Ytegefemkmdlmaaa.P
open Go.RowKit Go.Proofs.YtegefemkmdlmaaaW.PrintWords Go.Proofs.YtegefemkmdlmaaaW.PrintLast Go.Proofs.YtegefemkmdlmaaaW.PrintMore
/-- The lesser of two numbers. -/
def low (a b : Int) : Int := if a ≤ b then a else b
/-- The first n tracks of a list's sequence, run for run; and the others. -/
def cutA (n : Int) : List S103 → List S103
  | [] => []
  | r :: l => ⟨(clipS r).f0, low n (clipS r).f1⟩ :: cutA (n - low n (clipS r).f1) l
def cutB (n : Int) : List S103 → List S103
  | [] => []
  | r :: l => ⟨(clipS r).f0 + low n (clipS r).f1, (clipS r).f1 - low n (clipS r).f1⟩ :: cutB (n - low n (clipS r).f1) l
theorem low_range (n c : Int) (hn : 0 ≤ n) (hc : 0 ≤ c) : 0 ≤ low n c ∧ low n c ≤ n ∧ low n c ≤ c := by unfold low; split <;> omega
theorem mn_low (a b : Int) : mn a b = low a b := by unfold mn low; split <;> split <;> omega
theorem okR_mk {x y : Int} (h0 : 0 ≤ x) (h1 : x ≤ 128) (h2 : 0 ≤ y) (h3 : y ≤ 128) : okR ⟨x, y⟩ = true := decide_eq_true (by simp only []; omega)
theorem okL_snoc {l : List S103} {r : S103} (h : ∀ q ∈ l, okR q = true) (hr : okR r = true) : ∀ q ∈ l ++ [r], okR q = true := by
  intro q hq
  rcases List.mem_append.1 hq with hq | hq
  · exact h q hq
  · rw [List.mem_singleton.1 hq]; exact hr
theorem cut_l0 (l : List S103) (hok : okL l = true) : ∀ (d i : Nat) (n : Int) (a b : List S103), i + d = l.length → 0 ≤ n → n ≤ 9223372036854775807 → (∀ q ∈ a, okR q = true) → (∀ q ∈ b, okR q = true) → a.length = i → b.length = i →
    Ev (fun k => extent_Cut.l0 k n a b l (l.length : Int) (i : Int)) (joinL (a ++ cutA n (l.drop i)), joinL (b ++ cutB n (l.drop i))) := by
  have hlen := okL_len hok
  intro d
  induction d with
  | zero =>
    intro i n a b hi h0 h1 ha hb la lb
    rw [List.drop_of_length_le (by omega)]
    simp only [cutA, cutB, List.append_nil]
    refine Ev.step (f := fun k => (extent_Join.f k a).bind _) (fun k => by simp only [extent_Cut.l0]; rw [if_neg (by omega)]) ?_
    exact Ev.bind (join_ev a (okL_mk ha (by omega))) (Ev.bind (join_ev b (okL_mk hb (by omega))) (Ev.now _))
  | succ d ih =>
    intro i n a b hi h0 h1 ha hb la lb
    have hlt : i < l.length := by omega
    have hcr := clip_range (rd_T103 l (i : Int))
    have hce := clip_ev _ (ok_at hok hlt)
    rw [drop_at l i hlt]
    refine Ev.step (f := fun k => (extent_clip.f k ((rd_T103 l (i : Int)).f0) ((rd_T103 l (i : Int)).f1)).bind _) (fun k => by simp only [extent_Cut.l0]; rw [if_pos (by omega), if_pos (by omega), if_pos (by omega)]) ?_
    refine Ev.bind hce ?_
    simp only [cutA, cutB, mn_low, Option.bind_some]
    generalize clipS (rd_T103 l (i : Int)) = c at *
    have hlo := low_range n c.f1 h0 hcr.2.2.1
    generalize low n c.f1 = q at *
    simp only [List.length_singleton, if_pos (show a.length + 1 < 8796093022208 by omega), if_pos (show b.length + 1 < 8796093022208 by omega)]
    rw [wrap_succ i (by omega), wrap_in (c.f0 + q) (by omega) (by omega), wrap_in (c.f1 - q) (by omega) (by omega), wrap_in (n - q) (by omega) (by omega)]
    have k1 : okR ⟨c.f0, q⟩ = true := okR_mk (by omega) (by omega) (by omega) (by omega)
    have k2 : okR ⟨c.f0 + q, c.f1 - q⟩ = true := okR_mk (by omega) (by omega) (by omega) (by omega)
    have := ih (i + 1) (n - q) (a ++ [⟨c.f0, q⟩]) (b ++ [⟨c.f0 + q, c.f1 - q⟩]) (by omega) (by omega) (by omega) (okL_snoc ha k1) (okL_snoc hb k2) (by simp [la]) (by simp [lb])
    simpa using this
theorem cut_ev (l : List S103) (hok : okL l = true) (x : Int) (hx : x ≤ 9223372036854775807) : Ev (fun k => extent_Cut.f k l x) (joinL (cutA (mx 0 x) l), joinL (cutB (mx 0 x) l)) := by
  have h0 : 0 ≤ mx 0 x ∧ mx 0 x ≤ 9223372036854775807 := by unfold mx; split <;> omega
  have := cut_l0 l hok l.length 0 (mx 0 x) [] [] (by omega) h0.1 h0.2 (fun _ h => by cases h) (fun _ h => by cases h) rfl rfl
  simpa [extent_Cut.f] using this
end Go.Proofs.Ytegefemkmdlmaaa.P
