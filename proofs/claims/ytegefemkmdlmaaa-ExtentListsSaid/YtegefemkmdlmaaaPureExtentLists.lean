/- The pure statement of ExtentLists, and its proof. -/
import Derived.OpenShut
import Derived.Test.YtegefemkmdlmaaaF9
import Derived.Test.YtegefemkmdlmaaaF51
import Derived.Test.YtegefemkmdlmaaaF53
import Derived.Test.YtegefemkmdlmaaaF55
import Derived.Test.YtegefemkmdlmaaaF57
import Derived.Test.YtegefemkmdlmaaaOpen
import Derived.Test.YtegefemkmdlmaaaAwk5
import Derived.Test.YtegefemkmdlmaaaLawC
import Derived.Test.YtegefemkmdlmaaaLawV
namespace Go.Proofs.Ytegefemkmdlmaaa.P
open Go.RowKit Go.Proofs.YtegefemkmdlmaaaW.PrintWords Go.Proofs.YtegefemkmdlmaaaW.PrintLast Go.Proofs.YtegefemkmdlmaaaW.PrintMore
/-- The pure statement of ExtentLists. -/
def dasdlaw05_ExtentLists.Pure : Prop := ∀ (l0 : List S103) (a1 : Int), (∀ r ∈ l0, okR r = true) → l0.length ≤ 9223372036854775807 → (Lit.int .i64 a1).wf = true → ∃ k, dasdlaw05_ExtentLists.f k l0 a1 = some true
theorem refat_ev (l : List S103) (hok : okL l = true) (hl30 : l.length ≤ 30) (x : Int) : Ev (fun k => dasdref05_At.f k l x) (atL l x) := by
  unfold dasdref05_At.f atL atS
  refine Ev.bind (seq_ev l hok hl30) ?_
  by_cases h : x < 0
  · simp only [if_pos h]; exact Ev.now _
  · simp only [if_neg h]
    by_cases h1 : x ≥ ((seqL l).length : Int)
    · simp only [if_pos h1]
      rw [List.getElem?_eq_none (by omega)]
      exact Ev.now _
    · simp only [if_neg h1, if_pos (show 0 ≤ x by omega), if_pos (show x < ((seqL l).length : Int) by omega)]
      rw [List.getElem?_eq_getElem (show x.toNat < (seqL l).length by omega)]
      have : rd (seqL l) x = (seqL l)[x.toNat]'(by omega) := by
        unfold rd
        rw [List.getD_eq_getElem?_getD, List.getElem?_eq_getElem (show x.toNat < (seqL l).length by omega)]
        rfl
      rw [this]
      exact Ev.now _
theorem rd_get (s : List Int) (i : Nat) (h : i < s.length) : rd s (i : Int) = s[i] := by
  unfold rd
  rw [Int.toNat_natCast, List.getD_eq_getElem?_getD, List.getElem?_eq_getElem h]
  rfl
theorem refidx_l0 (s : List Int) (x : Int) (hs : s.length ≤ 1099511627776) : ∀ (d i : Nat), i + d = s.length → Ev (fun k => dasdref05_Index.l0 k x s (i : Int)) (idxL x (i : Int) (s.drop i)) := by
  intro d
  induction d with
  | zero =>
    intro i hi
    rw [List.drop_of_length_le (by omega)]
    exact Ev.step (f := fun _ => some (0, false)) (fun k => by simp only [dasdref05_Index.l0]; rw [if_neg (by omega)]) (Ev.now _)
  | succ d ih =>
    intro i hi
    have hlt : i < s.length := by omega
    rw [List.drop_eq_getElem_cons hlt]
    simp only [idxL]
    by_cases h : s[i] = x
    · rw [if_pos h]
      exact Ev.step (f := fun _ => some ((i : Int), true)) (fun k => by simp only [dasdref05_Index.l0]; rw [if_pos (by omega), if_pos (by omega), rd_get s i hlt, if_pos h]) (Ev.now _)
    · rw [if_neg h]
      refine Ev.step (f := fun k => dasdref05_Index.l0 k x s ((i + 1 : Nat) : Int)) (fun k => by simp only [dasdref05_Index.l0]; rw [if_pos (by omega), if_pos (by omega), rd_get s i hlt, if_neg h, wrap_succ i (by omega)]) ?_
      have := ih (i + 1) (by omega)
      rw [show ((i + 1 : Nat) : Int) = (i : Int) + 1 by omega] at this ⊢
      exact this
theorem refindex_ev (l : List S103) (hok : okL l = true) (hl30 : l.length ≤ 30) (hl : (seqL l).length ≤ 1099511627776) (x : Int) : Ev (fun k => dasdref05_Index.f k l x) (idxL x 0 (seqL l)) := by
  unfold dasdref05_Index.f
  refine Ev.bind (seq_ev l hok hl30) ?_
  have := refidx_l0 (seqL l) x hl (seqL l).length 0 (by omega)
  simpa using this
theorem refdis_l1 (s : List Int) (hs : s.length ≤ 1099511627776) (b : Nat) (hb : b < s.length) (R : Bool) : ∀ (d a : Nat), a + d = b → ((∃ j, a ≤ j ∧ j < b ∧ s[j]? = s[b]?) → R = false) → ((¬ ∃ j, a ≤ j ∧ j < b ∧ s[j]? = s[b]?) → Ev (fun k => dasdref05_Disjoint.l0 k s ((b + 1 : Nat) : Int)) R) → Ev (fun k => dasdref05_Disjoint.l1 k s (b : Int) (a : Int)) R := by
  intro d
  induction d with
  | zero =>
    intro a ha h0 h1
    exact Ev.step (f := fun k => dasdref05_Disjoint.l0 k s ((b + 1 : Nat) : Int)) (fun k => by simp only [dasdref05_Disjoint.l1]; rw [if_neg (by omega), wrap_succ b (by omega)]) (h1 (by rintro ⟨j, h⟩; omega))
  | succ d ih =>
    intro a ha h0 h1
    have hlt : a < s.length := by omega
    by_cases h : s[b] = s[a]
    · have : R = false := h0 ⟨a, by omega, by omega, by rw [List.getElem?_eq_getElem hlt, List.getElem?_eq_getElem hb, h]⟩
      subst this
      exact Ev.step (f := fun _ => some false) (fun k => by simp only [dasdref05_Disjoint.l1]; rw [if_pos (by omega), if_pos (by omega), if_pos (by omega), if_pos (by omega), if_pos (by omega), rd_get s b hb, rd_get s a hlt, if_pos h]) (Ev.now _)
    · refine Ev.step (f := fun k => dasdref05_Disjoint.l1 k s (b : Int) ((a + 1 : Nat) : Int)) (fun k => by simp only [dasdref05_Disjoint.l1]; rw [if_pos (by omega), if_pos (by omega), if_pos (by omega), if_pos (by omega), if_pos (by omega), rd_get s b hb, rd_get s a hlt, if_neg h, wrap_succ a (by omega)]) ?_
      refine ih (a + 1) (by omega) ?_ ?_
      · rintro ⟨j, j0, j1, j2⟩; exact h0 ⟨j, by omega, j1, j2⟩
      · intro hn
        refine h1 ?_
        rintro ⟨j, j0, j1, j2⟩
        by_cases e : j = a
        · subst e
          rw [List.getElem?_eq_getElem hlt, List.getElem?_eq_getElem hb] at j2
          exact h (Option.some.inj j2).symm
        · exact hn ⟨j, by omega, j1, j2⟩
theorem refdis_l0 (s : List Int) (hs : s.length ≤ 1099511627776) (R : Bool) : ∀ (d i : Nat), i + d = s.length → ((∃ b j, i ≤ b ∧ b < s.length ∧ j < b ∧ s[j]? = s[b]?) → R = false) → ((¬ ∃ b j, i ≤ b ∧ b < s.length ∧ j < b ∧ s[j]? = s[b]?) → R = true) → Ev (fun k => dasdref05_Disjoint.l0 k s (i : Int)) R := by
  intro d
  induction d with
  | zero =>
    intro i hi h0 h1
    have : R = true := h1 (by rintro ⟨b, j, h⟩; omega)
    subst this
    exact Ev.step (f := fun _ => some true) (fun k => by simp only [dasdref05_Disjoint.l0]; rw [if_neg (by omega)]) (Ev.now _)
  | succ d ih =>
    intro i hi h0 h1
    refine Ev.step (f := fun k => dasdref05_Disjoint.l1 k s (i : Int) 0) (fun k => by simp only [dasdref05_Disjoint.l0]; rw [if_pos (by omega)]) ?_
    refine refdis_l1 s hs i (by omega) R i 0 (by omega) ?_ ?_
    · rintro ⟨j, j0, j1, j2⟩; exact h0 ⟨i, j, by omega, by omega, j1, j2⟩
    · intro hn
      refine ih (i + 1) (by omega) ?_ ?_
      · rintro ⟨b, j, b0, b1, b2, b3⟩; exact h0 ⟨b, j, by omega, b1, b2, b3⟩
      · intro hm
        refine h1 ?_
        rintro ⟨b, j, b0, b1, b2, b3⟩
        by_cases e : b = i
        · subst e; exact hn ⟨j, by omega, b2, b3⟩
        · exact hm ⟨b, j, by omega, b1, b2, b3⟩
theorem refdis_ev (l : List S103) (hok : okL l = true) (hl30 : l.length ≤ 30) (hl : (seqL l).length ≤ 1099511627776) : Ev (fun k => dasdref05_Disjoint.f k l) (disjL l) := by
  unfold dasdref05_Disjoint.f
  refine Ev.bind (seq_ev l hok hl30) ?_
  refine refdis_l0 (seqL l) hl (disjL l) (seqL l).length 0 (by omega) ?_ ?_
  · rintro ⟨b, j, _, b1, b2, b3⟩
    cases h : disjL l with
    | false => rfl
    | true =>
      have hn := (disjL_iff l).1 h
      have := List.pairwise_iff_getElem.1 hn j b (by omega) b1 b2
      rw [List.getElem?_eq_getElem (by omega), List.getElem?_eq_getElem b1] at b3
      exact absurd (Option.some.inj b3) this
  · intro hn
    rw [disjL_iff]
    refine List.pairwise_iff_getElem.2 fun i j hi hj hij he => hn ⟨j, i, by omega, hj, hij, ?_⟩
    rw [List.getElem?_eq_getElem hi, List.getElem?_eq_getElem hj, he]
theorem lists_j0 (l : List S103) (x : Int) (b : Bool) (hx : -9223372036854775808 ≤ x ∧ x ≤ 9223372036854775807) (hl : ∀ r ∈ l, okR r = true) (hb : b = false → l.length ≤ 12) : Ev (fun k => dasdlaw05_ExtentLists.j0 k l x b) true := by
  cases b with
  | true =>
    refine Ev.step (f := fun k => (dasdlaw05_awake.f k).bind fun t => some t) (fun k => by simp only [dasdlaw05_ExtentLists.j0, if_true]) ?_
    exact Ev.bind awake5 (Ev.now _)
  | false =>
    have h0 := hb rfl
    have okl := okL_mk hl (by omega)
    have sl := seqL_length l
    have sb := sizeL_bound l
    refine Ev.step (f := fun k => (extent_At.f k l x).bind _) (fun k => by simp only [dasdlaw05_ExtentLists.j0, Bool.false_eq_true, if_false]; rfl) ?_
    have hi := index_ev l okl x
    rw [indexFrom_eq] at hi
    refine Ev.bind (at_ev l okl x hx.2) (Ev.bind (refat_ev l okl (by omega) x) (Ev.bind hi (Ev.bind (refindex_ev l okl (by omega) (by omega) x) (Ev.bind (size_ev l okl) (Ev.bind (seq_ev l okl (by omega)) ?_)))))
    simp only [sl, if_true]
    refine Ev.bind (disj_ev l okl) (Ev.bind (refdis_ev l okl (by omega) (by omega)) ?_)
    simp only [beq_self_eq_true, if_true]
    exact Ev.now _
end Go.Proofs.Ytegefemkmdlmaaa.P
namespace Go.Proofs.Ytegefemkmdlmaaa.Pure
open Go.Proofs.Ytegefemkmdlmaaa.P
open Go.RowKit Go.Proofs.YtegefemkmdlmaaaW.PrintWords Go.Proofs.YtegefemkmdlmaaaW.PrintLast Go.Proofs.YtegefemkmdlmaaaW.PrintMore
theorem ExtentLists : dasdlaw05_ExtentLists.Pure := by
  intro l x hl _ hx
  have hx := bounds_i64 hx
  apply Ev.rounds
  unfold dasdlaw05_ExtentLists.f
  refine Ev.bind awake5 ?_
  simp only [if_true]
  refine lists_j0 l x _ ⟨by omega, by omega⟩ hl (fun h2 => ?_)
  have := of_decide_eq_false h2
  omega
end Go.Proofs.Ytegefemkmdlmaaa.Pure
