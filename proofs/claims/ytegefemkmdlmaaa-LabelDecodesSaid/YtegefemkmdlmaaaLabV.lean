/- Plain laws: what the reference's Sequence and Disjoint answer. -/
import Derived.Test.YtegefemkmdlmaaaF55
import Derived.Test.YtegefemkmdlmaaaF57
import Derived.Test.YtegefemkmdlmaaaLawC
import Derived.Test.YtegefemkmdlmaaaLabQ
namespace Go.Proofs.Ytegefemkmdlmaaa.P
open Go.RowKit Go.Proofs.YtegefemkmdlmaaaW.PrintWords Go.Proofs.YtegefemkmdlmaaaW.PrintLast Go.Proofs.YtegefemkmdlmaaaW.PrintMore
theorem seq_l1 (l : List S103) (i : Nat) (c : S103) (R : List Int) (hc : 0 ≤ c.f0 ∧ c.f0 ≤ 128 ∧ 0 ≤ c.f1 ∧ c.f0 + c.f1 ≤ 128) (hi : i ≤ 100000) : ∀ (d j : Nat) (s : List Int), (j : Int) + d = c.f1 → s.length ≤ 128 * i + j → Ev (fun k => q5Sequence.l0 k l (s ++ seg (c.f0 + j) d) ((i + 1 : Nat) : Int)) R → Ev (fun k => q5Sequence.l1 k l s (i : Int) (j : Int) c.f0 c.f1) R := by
  intro d
  induction d with
  | zero =>
    intro j s hj hs h
    simp only [seg, List.append_nil] at h
    exact Ev.step (f := fun k => q5Sequence.l0 k l s ((i + 1 : Nat) : Int)) (fun k => by simp only [q5Sequence.l1]; rw [if_neg (by omega), wrap_succ i (by omega)]) h
  | succ d ih =>
    intro j s hj hs h
    refine Ev.step (f := fun k => q5Sequence.l1 k l (s ++ [c.f0 + j]) (i : Int) ((j + 1 : Nat) : Int) c.f0 c.f1) (fun k => by simp only [q5Sequence.l1]; rw [if_pos (by omega), if_pos (by omega), wrap_succ j (by omega), wrap_in (c.f0 + j) (by omega) (by omega)]) ?_
    refine ih (j + 1) _ (by omega) (by rw [List.length_append, List.length_singleton]; omega) ?_
    rw [List.append_assoc, List.singleton_append, show c.f0 + ((j + 1 : Nat) : Int) = c.f0 + j + 1 by omega]
    exact h
theorem seq_l0 (l : List S103) (hok : okL l = true) (hl : l.length ≤ 30) : ∀ (d i : Nat) (s : List Int), i + d = l.length → s.length ≤ 128 * i → Ev (fun k => q5Sequence.l0 k l s (i : Int)) (s ++ seqL (l.drop i)) := by
  intro d
  induction d with
  | zero =>
    intro i s hi hs
    rw [List.drop_of_length_le (by omega)]
    simp only [seqL, List.append_nil]
    exact Ev.step (f := fun _ => some s) (fun k => by simp only [q5Sequence.l0]; rw [if_neg (by omega)]) (Ev.now _)
  | succ d ih =>
    intro i s hi hs
    have hlt : i < l.length := by omega
    have hcr := clip_range (rd_T103 l (i : Int))
    have hsl := segR_length (rd_T103 l (i : Int))
    rw [drop_at l i hlt]
    refine Ev.step (f := fun k => (q5clip.f k ((rd_T103 l (i : Int)).f0) ((rd_T103 l (i : Int)).f1)).bind _) (fun k => by simp only [q5Sequence.l0]; rw [if_pos (by omega), if_pos (by omega)]) ?_
    refine Ev.bind (refclip_ev _ (ok_at hok hlt)) ?_
    simp only [seqL]
    refine seq_l1 l i (clipS (rd_T103 l (i : Int))) _ hcr (by omega) (clipS (rd_T103 l (i : Int))).f1.toNat 0 s (by omega) (by omega) ?_
    have := ih (i + 1) (s ++ segR (rd_T103 l (i : Int))) (by omega) (by rw [List.length_append]; omega)
    rw [List.append_assoc] at this
    rw [show (clipS (rd_T103 l (i : Int))).f0 + ((0 : Nat) : Int) = (clipS (rd_T103 l (i : Int))).f0 by omega]
    exact this
theorem seq_ev (l : List S103) (hok : okL l = true) (hl : l.length ≤ 30) : Ev (fun k => q5Sequence.f k l) (seqL l) := by
  have := seq_l0 l hok hl l.length 0 [] (by omega) (by simp)
  simpa [q5Sequence.f] using this
theorem rd_get (s : List Int) (i : Nat) (h : i < s.length) : rd s (i : Int) = s[i] := by
  unfold rd
  rw [Int.toNat_natCast, List.getD_eq_getElem?_getD, List.getElem?_eq_getElem h]
  rfl
theorem refdis_l1 (s : List Int) (hs : s.length ≤ 1099511627776) (b : Nat) (hb : b < s.length) (R : Bool) : ∀ (d a : Nat), a + d = b → ((∃ j, a ≤ j ∧ j < b ∧ s[j]? = s[b]?) → R = false) → ((¬ ∃ j, a ≤ j ∧ j < b ∧ s[j]? = s[b]?) → Ev (fun k => q5Disjoint.l0 k s ((b + 1 : Nat) : Int)) R) → Ev (fun k => q5Disjoint.l1 k s (b : Int) (a : Int)) R := by
  intro d
  induction d with
  | zero =>
    intro a ha h0 h1
    exact Ev.step (f := fun k => q5Disjoint.l0 k s ((b + 1 : Nat) : Int)) (fun k => by simp only [q5Disjoint.l1]; rw [if_neg (by omega), wrap_succ b (by omega)]) (h1 (by rintro ⟨j, h⟩; omega))
  | succ d ih =>
    intro a ha h0 h1
    have hlt : a < s.length := by omega
    by_cases h : s[b] = s[a]
    · have : R = false := h0 ⟨a, by omega, by omega, by rw [List.getElem?_eq_getElem hlt, List.getElem?_eq_getElem hb, h]⟩
      subst this
      exact Ev.step (f := fun _ => some false) (fun k => by simp only [q5Disjoint.l1]; rw [if_pos (by omega), if_pos (by omega), if_pos (by omega), if_pos (by omega), if_pos (by omega), rd_get s b hb, rd_get s a hlt, if_pos h]) (Ev.now _)
    · refine Ev.step (f := fun k => q5Disjoint.l1 k s (b : Int) ((a + 1 : Nat) : Int)) (fun k => by simp only [q5Disjoint.l1]; rw [if_pos (by omega), if_pos (by omega), if_pos (by omega), if_pos (by omega), if_pos (by omega), rd_get s b hb, rd_get s a hlt, if_neg h, wrap_succ a (by omega)]) ?_
      refine ih (a + 1) (by omega) ?_ ?_
      · rintro ⟨j, j0, j1, j2⟩; exact h0 ⟨j, by omega, j1, j2⟩
      · intro hn
        refine h1 ?_
        rintro ⟨j, j0, j1, j2⟩
        by_cases e : j = a
        · subst e
          rw [List.getElem?_eq_getElem hlt, List.getElem?_eq_getElem hb] at j2
          exact h (Option.some.inj j2).symm
        · exact hn ⟨j, by omega, j1, j2⟩
theorem refdis_l0 (s : List Int) (hs : s.length ≤ 1099511627776) (R : Bool) : ∀ (d i : Nat), i + d = s.length → ((∃ b j, i ≤ b ∧ b < s.length ∧ j < b ∧ s[j]? = s[b]?) → R = false) → ((¬ ∃ b j, i ≤ b ∧ b < s.length ∧ j < b ∧ s[j]? = s[b]?) → R = true) → Ev (fun k => q5Disjoint.l0 k s (i : Int)) R := by
  intro d
  induction d with
  | zero =>
    intro i hi h0 h1
    have : R = true := h1 (by rintro ⟨b, j, h⟩; omega)
    subst this
    exact Ev.step (f := fun _ => some true) (fun k => by simp only [q5Disjoint.l0]; rw [if_neg (by omega)]) (Ev.now _)
  | succ d ih =>
    intro i hi h0 h1
    refine Ev.step (f := fun k => q5Disjoint.l1 k s (i : Int) 0) (fun k => by simp only [q5Disjoint.l0]; rw [if_pos (by omega)]) ?_
    refine refdis_l1 s hs i (by omega) R i 0 (by omega) ?_ ?_
    · rintro ⟨j, j0, j1, j2⟩; exact h0 ⟨i, j, by omega, by omega, j1, j2⟩
    · intro hn
      refine ih (i + 1) (by omega) ?_ ?_
      · rintro ⟨b, j, b0, b1, b2, b3⟩; exact h0 ⟨b, j, by omega, b1, b2, b3⟩
      · intro hm
        refine h1 ?_
        rintro ⟨b, j, b0, b1, b2, b3⟩
        by_cases e : b = i
        · subst e; exact hn ⟨j, by omega, b2, b3⟩
        · exact hm ⟨b, j, by omega, b1, b2, b3⟩
theorem refdis_ev (l : List S103) (hok : okL l = true) (hl30 : l.length ≤ 30) (hl : (seqL l).length ≤ 1099511627776) : Ev (fun k => q5Disjoint.f k l) (disjL l) := by
  unfold q5Disjoint.f
  refine Ev.bind (seq_ev l hok hl30) ?_
  refine refdis_l0 (seqL l) hl (disjL l) (seqL l).length 0 (by omega) ?_ ?_
  · rintro ⟨b, j, _, b1, b2, b3⟩
    cases h : disjL l with
    | false => rfl
    | true =>
      have hn := (disjL_iff l).1 h
      have := List.pairwise_iff_getElem.1 hn j b (by omega) b1 b2
      rw [List.getElem?_eq_getElem (by omega), List.getElem?_eq_getElem b1] at b3
      exact absurd (Option.some.inj b3) this
  · intro hn
    rw [disjL_iff]
    refine List.pairwise_iff_getElem.2 fun i j hi hj hij he => hn ⟨j, i, by omega, hj, hij, ?_⟩
    rw [List.getElem?_eq_getElem hi, List.getElem?_eq_getElem hj, he]
end Go.Proofs.Ytegefemkmdlmaaa.P
