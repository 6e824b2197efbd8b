/- The pure statement of ExtentParts, and its proof. -/
import Derived.OpenShut
import Derived.Test.YtegefemkmdlmaaaF13
import Derived.Test.YtegefemkmdlmaaaOpen
import Derived.Test.YtegefemkmdlmaaaAwk5
import Derived.Test.YtegefemkmdlmaaaLawP
namespace Go.Proofs.Ytegefemkmdlmaaa.P
open Go.RowKit Go.Proofs.YtegefemkmdlmaaaW.PrintWords Go.Proofs.YtegefemkmdlmaaaW.PrintLast Go.Proofs.YtegefemkmdlmaaaW.PrintMore
/-- The pure statement of ExtentParts. -/
def dasdlaw05_ExtentParts.Pure : Prop := ∀ (l0 : List S103) (a1 : Int), (∀ r ∈ l0, okR r = true) → l0.length ≤ 9223372036854775807 → (Lit.int .i64 a1).wf = true → ∃ k, dasdlaw05_ExtentParts.f k l0 a1 = some true
theorem part_lengthA (l : List S103) : ∀ n, (cutA n l).length = l.length := by
  induction l with
  | nil => intro n; rfl
  | cons r l ih => intro n; simp only [cutA, List.length_cons, ih]
theorem part_lengthB (l : List S103) : ∀ n, (cutB n l).length = l.length := by
  induction l with
  | nil => intro n; rfl
  | cons r l ih => intro n; simp only [cutB, List.length_cons, ih]
theorem parts_l0 (l : List S103) (okl : okL l = true) (hlen : l.length ≤ 30) : ∀ (d i : Nat), (i : Int) + d = sizeL l → Ev (fun k => dasdlaw05_ExtentParts.l0 k l (sizeL l) (i : Int)) true := by
  have sl := seqL_length l
  have sb := sizeL_bound l
  have oJ : okL (joinL l) = true := fine_okL (fine_joinL l) (by have := joinL_length l; omega)
  intro d
  induction d with
  | zero =>
    intro i hi
    refine Ev.step (f := fun k => (extent_At.f k l (sizeL l)).bind _) (fun k => by simp only [dasdlaw05_ExtentParts.l0]; rw [if_neg (by omega)]) ?_
    refine Ev.bind (at_ev l okl _ (by omega)) ?_
    unfold atL atS
    rw [if_neg (by omega), List.getElem?_eq_none (by omega)]
    exact Ev.now _
  | succ d ih =>
    intro i hi
    have hlt : i < (seqL l).length := by omega
    have hw : wrap64 ((i : Int) + 1) = ((i + 1 : Nat) : Int) := wrap_succ i (by omega)
    have hget : (seqL l)[i]? = some (seqL l)[i] := List.getElem?_eq_getElem hlt
    have hat : atL l (i : Int) = ((seqL l)[i], true) := by
      unfold atL atS
      rw [if_neg (by omega), Int.toNat_natCast, hget]
    have hatJ : atL (joinL l) (i : Int) = ((seqL l)[i], true) := by
      unfold atL atS
      rw [if_neg (by omega), Int.toNat_natCast, seqL_joinL, hget]
    obtain ⟨p, p0, p1, p2⟩ := idxL_some (seqL l)[i] (seqL l) 0 i hget
    have hix := index_ev l okl (seqL l)[i]
    rw [indexFrom_eq, p1, Int.zero_add] at hix
    have hin : inL l (seqL l)[i] = true := (seqL_mem l _).1 (List.getElem_mem hlt)
    have hco := contains_ev l okl (seqL l)[i]
    rw [hin] at hco
    have a1 := at_ev l okl (i : Int) (by omega)
    have a2 := at_ev (joinL l) oJ (i : Int) (by omega)
    rw [hat] at a1
    rw [hatJ] at a2
    refine Ev.step (f := fun k => (extent_At.f k l (i : Int)).bind _) (fun k => by simp only [dasdlaw05_ExtentParts.l0]; rw [if_pos (by omega)]) ?_
    refine Ev.bind a1 (Ev.bind hix (Ev.bind (join_ev l okl) (Ev.bind a2 ?_)))
    simp only [if_true, if_neg (show ¬ (p : Int) > (i : Int) by omega)]
    refine Ev.bind hco ?_
    simp only [if_true, hw]
    by_cases hp : (p : Int) < (i : Int)
    · simp only [if_pos hp]
      have hd : disjL l = false := by
        cases h : disjL l with
        | false => rfl
        | true =>
          have hn := List.pairwise_iff_getElem.1 ((disjL_iff l).1 h) p i (by omega) hlt (by omega)
          rw [List.getElem?_eq_getElem (by omega)] at p2
          exact absurd (Option.some.inj p2) hn
      refine Ev.bind (disj_ev l okl) ?_
      simp only [hd, Bool.false_eq_true, if_false]
      exact ih (i + 1) (by omega)
    · simp only [if_neg hp]
      exact ih (i + 1) (by omega)
theorem parts_j0 (l : List S103) (x : Int) (b : Bool) (hx : -9223372036854775808 ≤ x ∧ x ≤ 9223372036854775807) (hl : ∀ r ∈ l, okR r = true) (hb : b = false → l.length ≤ 12) : Ev (fun k => dasdlaw05_ExtentParts.j0 k l x b) true := by
  cases b with
  | true =>
    refine Ev.step (f := fun k => (dasdlaw05_awake.f k).bind fun t => some t) (fun k => by simp only [dasdlaw05_ExtentParts.j0, if_true]) ?_
    exact Ev.bind awake5 (Ev.now _)
  | false =>
    have h0 := hb rfl
    have okl := okL_mk hl (by omega)
    have sl := seqL_length l
    have sb := sizeL_bound l
    have hn : mx 0 x = if x < 0 then 0 else x := by unfold mx; split <;> split <;> omega
    have hn0 : 0 ≤ mx 0 x := by rw [hn]; split <;> omega
    obtain ⟨cA, cB⟩ := seqL_cut l (mx 0 x) hn0
    obtain ⟨A, hA⟩ : ∃ A, A = joinL (cutA (mx 0 x) l) := ⟨_, rfl⟩
    obtain ⟨B, hB⟩ : ∃ B, B = joinL (cutB (mx 0 x) l) := ⟨_, rfl⟩
    have lA : A.length ≤ 12 := by have := joinL_length (cutA (mx 0 x) l); rw [part_lengthA] at this; rw [hA]; omega
    have lB : B.length ≤ 12 := by have := joinL_length (cutB (mx 0 x) l); rw [part_lengthB] at this; rw [hB]; omega
    have lJ : (joinL l).length ≤ 12 := by have := joinL_length l; omega
    have sA : seqL A = (seqL l).take (mx 0 x).toNat := by rw [hA, seqL_joinL, cA]
    have sB : seqL B = (seqL l).drop (mx 0 x).toNat := by rw [hB, seqL_joinL, cB]
    have oA : okL A = true := by rw [hA] at lA ⊢; exact fine_okL (fine_joinL _) (by omega)
    have oB : okL B = true := by rw [hB] at lB ⊢; exact fine_okL (fine_joinL _) (by omega)
    have oAB : okL (A ++ B) = true := by
      refine okL_mk (fun r hr => ?_) (by rw [List.length_append]; omega)
      rcases List.mem_append.1 hr with hr | hr
      · exact okL_all oA r hr
      · exact okL_all oB r hr
    have nA := seqL_length A
    have nB := seqL_length B
    rw [sA, List.length_take] at nA
    rw [sB, List.length_drop] at nB
    have zA : sizeL A = mx 0 (mn x (sizeL l)) := by
      rw [hn] at nA
      unfold mx mn
      split at nA <;> split <;> split <;> omega
    have zAB : wrap64 (sizeL A + sizeL B) = sizeL l := by rw [wrap_in _ (by omega) (by omega)]; omega
    have jAB : joinL (A ++ B) = joinL l := by rw [joinL_fold, joinL_fold, seqL_append, sA, sB, List.take_append_drop]
    refine Ev.step (f := fun k => (extent_Size.f k l).bind _) (fun k => by simp only [dasdlaw05_ExtentParts.j0, Bool.false_eq_true, if_false]; rfl) ?_
    have hcut := cut_ev l okl x hx.2
    rw [← hA, ← hB] at hcut
    refine Ev.bind (size_ev l okl) (Ev.bind hcut (Ev.bind (size_ev A oA) ?_))
    simp only [if_pos zA]
    refine Ev.bind (size_ev A oA) (Ev.bind (size_ev B oB) ?_)
    simp only [if_pos zAB, Option.bind_some, List.nil_append, List.length_nil, if_pos (show 0 + A.length < 8796093022208 by omega), if_pos (show A.length + B.length < 8796093022208 by omega)]
    refine Ev.bind (join_ev _ oAB) (Ev.bind (join_ev l okl) ?_)
    rw [jAB]
    refine Ev.bind (same_ev _ _ (by omega)) ?_
    rw [decide_eq_true rfl]
    refine Ev.step (f := fun k => dasdlaw05_ExtentParts.l0 k l (sizeL l) ((0 : Nat) : Int)) (fun k => by simp only [dasdlaw05_ExtentParts.j1, Bool.not_true, Bool.false_eq_true, if_false]; rfl) ?_
    exact parts_l0 l okl (by omega) (sizeL l).toNat 0 (by omega)
end Go.Proofs.Ytegefemkmdlmaaa.P
namespace Go.Proofs.Ytegefemkmdlmaaa.Pure
open Go.Proofs.Ytegefemkmdlmaaa.P
open Go.RowKit Go.Proofs.YtegefemkmdlmaaaW.PrintWords Go.Proofs.YtegefemkmdlmaaaW.PrintLast Go.Proofs.YtegefemkmdlmaaaW.PrintMore
theorem ExtentParts : dasdlaw05_ExtentParts.Pure := by
  intro l x hl _ hx
  have hx := bounds_i64 hx
  apply Ev.rounds
  unfold dasdlaw05_ExtentParts.f
  refine Ev.bind awake5 ?_
  simp only [if_true]
  refine parts_j0 l x _ ⟨by omega, by omega⟩ hl (fun h2 => ?_)
  have := of_decide_eq_false h2
  omega
end Go.Proofs.Ytegefemkmdlmaaa.Pure
