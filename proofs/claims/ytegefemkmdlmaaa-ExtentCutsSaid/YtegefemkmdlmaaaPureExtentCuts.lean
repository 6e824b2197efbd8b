/- The pure statement of ExtentCuts, and its proof. -/
import Derived.OpenShut
import Derived.Test.YtegefemkmdlmaaaF6
import Derived.Test.YtegefemkmdlmaaaF36
import Derived.Test.YtegefemkmdlmaaaOpen
import Derived.Test.YtegefemkmdlmaaaAwk5
import Derived.Test.YtegefemkmdlmaaaLawJ
import Derived.Test.YtegefemkmdlmaaaLawK
namespace Go.Proofs.Ytegefemkmdlmaaa.P
open Go.RowKit Go.Proofs.YtegefemkmdlmaaaW.PrintWords Go.Proofs.YtegefemkmdlmaaaW.PrintLast Go.Proofs.YtegefemkmdlmaaaW.PrintMore
/-- The pure statement of ExtentCuts. -/
def dasdlaw05_ExtentCuts.Pure : Prop := ∀ (l0 : List S103) (a1 : Int), (∀ r ∈ l0, okR r = true) → l0.length ≤ 9223372036854775807 → (Lit.int .i64 a1).wf = true → ∃ k, dasdlaw05_ExtentCuts.f k l0 a1 = some true
theorem refcut_l0 (l : List S103) (hok : okL l = true) : ∀ (d i : Nat) (v n : Int) (a b : List S103), i + d = l.length → (n = if v < 0 then 0 else v) → -9223372036854775808 ≤ v → v ≤ 9223372036854775807 → (∀ q ∈ a, okR q = true) → (∀ q ∈ b, okR q = true) → a.length = i → b.length = i →
    Ev (fun k => dasdref05_Cut.l0 k l v a b (i : Int)) (joinL (a ++ cutA n (l.drop i)), joinL (b ++ cutB n (l.drop i))) := by
  have hlen := okL_len hok
  intro d
  induction d with
  | zero =>
    intro i v n a b hi hn h0 h1 ha hb la lb
    rw [List.drop_of_length_le (by omega)]
    simp only [cutA, cutB, List.append_nil]
    refine Ev.step (f := fun k => (dasdref05_Join.f k a).bind _) (fun k => by simp only [dasdref05_Cut.l0]; rw [if_neg (by omega)]) ?_
    exact Ev.bind (refjoin_ev a (okL_mk ha (by omega))) (Ev.bind (refjoin_ev b (okL_mk hb (by omega))) (Ev.now _))
  | succ d ih =>
    intro i v n a b hi hn h0 h1 ha hb la lb
    have hlt : i < l.length := by omega
    have hcr := clip_range (rd_T103 l (i : Int))
    have hce := refclip_ev _ (ok_at hok hlt)
    rw [drop_at l i hlt]
    refine Ev.step (f := fun k => (dasdref05_clip.f k ((rd_T103 l (i : Int)).f0) ((rd_T103 l (i : Int)).f1)).bind _) (fun k => by simp only [dasdref05_Cut.l0]; rw [if_pos (by omega), if_pos (by omega)]) ?_
    refine Ev.bind hce ?_
    simp only [cutA, cutB, Option.bind_some]
    generalize clipS (rd_T103 l (i : Int)) = c at *
    have hn0 : 0 ≤ n := by rw [hn]; split <;> omega
    have hlo := low_range n c.f1 hn0 hcr.2.2.1
    have hq : mx 0 (mn v c.f1) = low n c.f1 := by
      rw [hn]; unfold mx mn low
      split <;> split <;> split <;> omega
    simp only [hq]
    have hs : v ≤ 0 → low n c.f1 = 0 := fun hv => by
      have : n = 0 := by rw [hn]; split <;> omega
      omega
    generalize low n c.f1 = q at *
    simp only [if_pos (show a.length < 8796093022208 by omega), if_pos (show b.length < 8796093022208 by omega)]
    have hnv : 0 ≤ v → n = v := fun hv => by rw [hn, if_neg (by omega)]
    have hnz : v < 0 → n = 0 := fun hv => by rw [hn, if_pos hv]
    rw [wrap_succ i (by omega), wrap_in (c.f0 + q) (by omega) (by omega), wrap_in (c.f1 - q) (by omega) (by omega)]
    have nxt : ∀ v', (n - q = if v' < 0 then 0 else v') → -9223372036854775808 ≤ v' → v' ≤ 9223372036854775807 → Ev (fun k => dasdref05_Cut.l0 k l v' (a ++ [⟨c.f0, q⟩]) (b ++ [⟨c.f0 + q, c.f1 - q⟩]) ((i + 1 : Nat) : Int)) (joinL (a ++ ⟨c.f0, q⟩ :: cutA (n - q) (l.drop (i + 1))), joinL (b ++ ⟨c.f0 + q, c.f1 - q⟩ :: cutB (n - q) (l.drop (i + 1)))) := fun v' e1 e2 e3 => by
      have k1 : okR ⟨c.f0, q⟩ = true := okR_mk (by omega) (by omega) (by omega) (by omega)
      have k2 : okR ⟨c.f0 + q, c.f1 - q⟩ = true := okR_mk (by omega) (by omega) (by omega) (by omega)
      have := ih (i + 1) v' (n - q) (a ++ [⟨c.f0, q⟩]) (b ++ [⟨c.f0 + q, c.f1 - q⟩]) (by omega) e1 e2 e3 (okL_snoc ha k1) (okL_snoc hb k2) (by simp [la]) (by simp [lb])
      simpa using this
    by_cases hv : v > 0
    · simp only [if_pos hv]
      have := hnv (by omega)
      rw [wrap_in (v - q) (by omega) (by omega)]
      exact nxt (v - q) (by rw [if_neg (by omega)]; omega) (by omega) (by omega)
    · simp only [if_neg hv]
      have := hs (by omega)
      exact nxt v (by rw [this, Int.sub_zero]; exact hn) h0 h1
theorem refcut_ev (l : List S103) (hok : okL l = true) (x : Int) (h0 : -9223372036854775808 ≤ x) (h1 : x ≤ 9223372036854775807) : Ev (fun k => dasdref05_Cut.f k l x) (joinL (cutA (mx 0 x) l), joinL (cutB (mx 0 x) l)) := by
  have hn : mx 0 x = if x < 0 then 0 else x := by unfold mx; split <;> split <;> omega
  have := refcut_l0 l hok l.length 0 x (mx 0 x) [] [] (by omega) hn h0 h1 (fun _ h => by cases h) (fun _ h => by cases h) rfl rfl
  simpa [dasdref05_Cut.f] using this
theorem cutA_length (l : List S103) : ∀ n, (cutA n l).length = l.length := by
  induction l with
  | nil => intro n; rfl
  | cons r l ih => intro n; simp only [cutA, List.length_cons, ih]
theorem cutB_length (l : List S103) : ∀ n, (cutB n l).length = l.length := by
  induction l with
  | nil => intro n; rfl
  | cons r l ih => intro n; simp only [cutB, List.length_cons, ih]
theorem cuts_j0 (l : List S103) (x : Int) (b : Bool) (hx : -9223372036854775808 ≤ x ∧ x ≤ 9223372036854775807) (hl : ∀ r ∈ l, okR r = true) (hb : b = false → l.length ≤ 30) : Ev (fun k => dasdlaw05_ExtentCuts.j0 k l x b) true := by
  cases b with
  | true =>
    refine Ev.step (f := fun k => (dasdlaw05_awake.f k).bind fun t => some t) (fun k => by simp only [dasdlaw05_ExtentCuts.j0, if_true]) ?_
    exact Ev.bind awake5 (Ev.now _)
  | false =>
    have h0 := hb rfl
    have okl := okL_mk hl (by omega)
    have l1 := joinL_length (cutA (mx 0 x) l)
    have l2 := joinL_length (cutB (mx 0 x) l)
    have l3 := joinL_length l
    rw [cutA_length] at l1
    rw [cutB_length] at l2
    refine Ev.step (f := fun k => (extent_Cut.f k l x).bind _) (fun k => by simp only [dasdlaw05_ExtentCuts.j0, Bool.false_eq_true, if_false]; rfl) ?_
    refine Ev.bind (cut_ev l okl x hx.2) (Ev.bind (refcut_ev l okl x hx.1 hx.2) (Ev.bind (same_ev (joinL (cutA (mx 0 x) l)) _ (by omega)) ?_))
    simp only [decide_true, if_true]
    refine Ev.bind (same_ev (joinL (cutB (mx 0 x) l)) _ (by omega)) ?_
    simp only [decide_true, if_true]
    refine Ev.bind (join_ev l okl) (Ev.bind (refjoin_ev l okl) (Ev.bind (same_ev _ _ (by omega)) ?_))
    simp only [decide_true]
    exact Ev.now _
end Go.Proofs.Ytegefemkmdlmaaa.P
namespace Go.Proofs.Ytegefemkmdlmaaa.Pure
open Go.Proofs.Ytegefemkmdlmaaa.P
open Go.RowKit Go.Proofs.YtegefemkmdlmaaaW.PrintWords Go.Proofs.YtegefemkmdlmaaaW.PrintLast Go.Proofs.YtegefemkmdlmaaaW.PrintMore
theorem ExtentCuts : dasdlaw05_ExtentCuts.Pure := by
  intro l x hl _ hx
  have hx := bounds_i64 hx
  apply Ev.rounds
  unfold dasdlaw05_ExtentCuts.f
  refine Ev.bind awake5 ?_
  simp only [if_true]
  refine cuts_j0 l x _ ⟨by omega, by omega⟩ hl (fun h2 => ?_)
  have := of_decide_eq_false h2
  omega
end Go.Proofs.Ytegefemkmdlmaaa.Pure
