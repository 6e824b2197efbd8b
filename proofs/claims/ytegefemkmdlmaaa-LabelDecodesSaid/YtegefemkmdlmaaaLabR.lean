/- Plain laws on labels: what the reference's Valid, Equal and Encode answer. -/
import Derived.Test.YtegefemkmdlmaaaF86
import Derived.Test.YtegefemkmdlmaaaF87
import Derived.Test.YtegefemkmdlmaaaF88
import Derived.Test.YtegefemkmdlmaaaF90
import Derived.Test.YtegefemkmdlmaaaF102
import Derived.Test.YtegefemkmdlmaaaLawJ
import Derived.Test.YtegefemkmdlmaaaLabV
import Derived.Test.YtegefemkmdlmaaaLabP
namespace Go.Proofs.Ytegefemkmdlmaaa.P
open Go.RowKit Go.Proofs.YtegefemkmdlmaaaW.PrintWords Go.Proofs.YtegefemkmdlmaaaW.PrintLast Go.Proofs.YtegefemkmdlmaaaW.PrintMore
theorem rvalid_is (t : Int) : q7valid.f t = some (decide (4 ≤ t ∧ t ≤ 128)) := by
  unfold q7valid.f
  by_cases h : t ≥ 4
  · rw [if_pos h]; congr 1; rw [decide_eq_decide]; omega
  · rw [if_neg h, decide_eq_false (by omega)]
theorem rtab_is (t : Int) (h : 4 ≤ t ∧ t ≤ 128) : q7TableTracks.f t = some ((t + 3) / 4) := by
  unfold q7TableTracks.f
  rw [rvalid_is, Option.bind_some, decide_eq_true h, if_pos rfl, wrap_in (t + 3) (by omega) (by omega), Int.tdiv_eq_ediv_of_nonneg (by omega), wrap_in _ (by omega) (by omega)]
/-- Does a run lie behind the table and before the end? -/
def inside (t : Int) (r : S103) : Bool := decide ((t + 3) / 4 ≤ r.f0 ∧ r.f0 < t ∧ 1 ≤ r.f1 ∧ r.f1 ≤ t - r.f0)
theorem rValid_l0 (L : Lab) (t : Int) (ht : 4 ≤ t ∧ t ≤ 128) (ok : okL L.ext = true) (hl : L.ext.length ≤ 30) : ∀ (d i : Nat), i + d = L.ext.length → Ev (fun k => q7Valid.l0 k t (i : Int) L.id L.unit L.name L.note L.ext) ((L.ext.drop i).all (inside t) && (decide (joinL L.ext = L.ext) && disjL L.ext)) := by
  intro d
  induction d with
  | zero =>
    intro i hi
    have hz : (L.ext.drop i).all (inside t) = true := by rw [List.drop_of_length_le (by omega)]; rfl
    rw [hz, Bool.true_and]
    refine Ev.step (f := fun k => (q5Join.f k L.ext).bind _) (fun k => by simp only [q7Valid.l0]; rw [if_neg (by omega)]) ?_
    refine Ev.bind (refjoin_ev L.ext ok) (Ev.bind (same_ev L.ext (joinL L.ext) (by omega)) ?_)
    by_cases c : L.ext = joinL L.ext
    · rw [decide_eq_true c.symm, Bool.true_and]
      simp only [decide_eq_true c, if_true]
      have sl := seqL_length L.ext
      have sb := sizeL_bound L.ext
      exact Ev.bind (refdis_ev L.ext ok hl (by omega)) (Ev.now _)
    · rw [show decide (joinL L.ext = L.ext) = false from decide_eq_false (fun h => c h.symm), Bool.false_and]
      simp only [decide_eq_false c, Bool.false_eq_true, if_false]
      exact Ev.now _
  | succ d ih =>
    intro i hi
    have hlt : i < L.ext.length := by omega
    have hb := okR_bounds (ok_at ok hlt)
    rw [drop_at L.ext i hlt, List.all_cons]
    obtain ⟨r, er⟩ : ∃ r, rd_T103 L.ext (i : Int) = r := ⟨_, rfl⟩
    rw [er] at hb ⊢
    by_cases c : inside t r = true
    · have c' := of_decide_eq_true c
      rw [c, Bool.true_and]
      refine Ev.step (f := fun k => q7Valid.l0 k t ((i + 1 : Nat) : Int) L.id L.unit L.name L.note L.ext) (fun k => ?_) (ih (i + 1) (by omega))
      simp only [q7Valid.l0]
      rw [if_pos (by omega), if_pos (by omega), rtab_is t ht, Option.bind_some, er, if_neg (by omega), if_neg (by omega), if_neg (by omega), wrap_in (t - r.f0) (by omega) (by omega), if_neg (by omega), wrap_succ i (by omega)]
    · have c' : ¬ ((t + 3) / 4 ≤ r.f0 ∧ r.f0 < t ∧ 1 ≤ r.f1 ∧ r.f1 ≤ t - r.f0) := fun h => c (decide_eq_true h)
      rw [show inside t r = false by simpa using c, Bool.false_and, Bool.false_and]
      refine Ev.step (f := fun _ => some false) (fun k => ?_) (Ev.now _)
      simp only [q7Valid.l0]
      rw [if_pos (by omega), if_pos (by omega), rtab_is t ht, Option.bind_some, er]
      by_cases c0 : r.f0 < (t + 3) / 4
      · rw [if_pos c0]
      · rw [if_neg c0]
        by_cases c1 : r.f0 ≥ t
        · rw [if_pos c1]
        · rw [if_neg c1]
          by_cases c2 : r.f1 < 1
          · rw [if_pos c2]
          · rw [if_neg c2, wrap_in (t - r.f0) (by omega) (by omega), if_pos (by omega)]
/-- The reference's way of telling validity. -/
def validR (L : Lab) (t : Int) : Bool :=
  decide (4 ≤ t ∧ t ≤ 128) && (decide (1 ≤ L.id ∧ L.id ≤ 1099511627776) && (decide (0 ≤ L.unit ∧ L.unit ≤ 1099511627776) && (decide (L.name.size ≤ 31 ∧ L.note.size ≤ 400) && (decide (1 ≤ L.ext.length ∧ L.ext.length ≤ 16) && (L.ext.all (inside t) && (decide (joinL L.ext = L.ext) && disjL L.ext))))))
theorem validR_eq (L : Lab) (t : Int) : validR L t = validLab L t := by
  unfold validR validLab validL
  rw [Bool.eq_iff_iff]
  simp only [Bool.and_eq_true, decide_eq_true_iff, List.all_eq_true]
  constructor
  · rintro ⟨h0, h1, h2, h3, h4, h5, h6, h7⟩
    refine ⟨h0, h1, h2, h3, h4, h6, h7, fun r hr => ?_⟩
    have := of_decide_eq_true (h5 r hr)
    omega
  · rintro ⟨h0, h1, h2, h3, h4, h5, h6, h7⟩
    refine ⟨h0, h1, h2, h3, h4, fun r hr => ?_, h5, h6⟩
    have hf : fine L.ext := by rw [← h5]; exact fine_joinL _
    have h8 := hf r hr
    have h9 := h7 r hr
    exact decide_eq_true (by omega)
theorem rValid_ev (L : Lab) (t : Int) (ok : okL L.ext = true) (hl : L.ext.length ≤ 30) : Ev (fun k => q7Valid.f k L.id L.unit L.name L.note L.ext t) (validLab L t) := by
  have no : ∀ b, b = true → Ev (fun k => q7Valid.j0 k t b L.id L.unit L.name L.note L.ext) false := fun b hb => by
    subst hb
    exact Ev.step (f := fun _ => some false) (fun k => by simp only [q7Valid.j0, if_true]) (Ev.now _)
  rw [← validR_eq]
  unfold q7Valid.f validR
  rw [rvalid_is]
  simp only [Option.bind_some]
  by_cases ht : 4 ≤ t ∧ t ≤ 128
  · rw [decide_eq_true ht, Bool.true_and]
    simp only [if_true]
    by_cases c0 : L.id < 1
    · simp only [if_pos c0]; rw [decide_eq_false (show ¬ (1 ≤ L.id ∧ L.id ≤ 1099511627776) by omega), Bool.false_and]; exact no true rfl
    · simp only [if_neg c0]
      by_cases c1 : L.id > 1099511627776
      · simp only [if_pos c1]; rw [decide_eq_false (show ¬ (1 ≤ L.id ∧ L.id ≤ 1099511627776) by omega), Bool.false_and]; exact no true rfl
      · simp only [if_neg c1]; rw [decide_eq_true (show 1 ≤ L.id ∧ L.id ≤ 1099511627776 by omega), Bool.true_and]
        by_cases c2 : L.unit < 0
        · simp only [if_pos c2]; rw [decide_eq_false (show ¬ (0 ≤ L.unit ∧ L.unit ≤ 1099511627776) by omega), Bool.false_and]; exact no true rfl
        · simp only [if_neg c2]
          by_cases c3 : L.unit > 1099511627776
          · simp only [if_pos c3]; rw [decide_eq_false (show ¬ (0 ≤ L.unit ∧ L.unit ≤ 1099511627776) by omega), Bool.false_and]; exact no true rfl
          · simp only [if_neg c3]; rw [decide_eq_true (show 0 ≤ L.unit ∧ L.unit ≤ 1099511627776 by omega), Bool.true_and]
            by_cases c4 : (L.name.size : Int) > 31
            · simp only [if_pos c4]; rw [decide_eq_false (show ¬ (L.name.size ≤ 31 ∧ L.note.size ≤ 400) by omega), Bool.false_and]; exact no true rfl
            · simp only [if_neg c4]
              by_cases c5 : (L.note.size : Int) > 400
              · simp only [if_pos c5]; rw [decide_eq_false (show ¬ (L.name.size ≤ 31 ∧ L.note.size ≤ 400) by omega), Bool.false_and]; exact no true rfl
              · simp only [if_neg c5]; rw [decide_eq_true (show L.name.size ≤ 31 ∧ L.note.size ≤ 400 by omega), Bool.true_and]
                by_cases c6 : (L.ext.length : Int) < 1
                · simp only [if_pos c6]; rw [decide_eq_false (show ¬ (1 ≤ L.ext.length ∧ L.ext.length ≤ 16) by omega), Bool.false_and]; exact no true rfl
                · simp only [if_neg c6]
                  by_cases c7 : (L.ext.length : Int) > 16
                  · rw [decide_eq_false (show ¬ (1 ≤ L.ext.length ∧ L.ext.length ≤ 16) by omega), Bool.false_and]; exact no _ (decide_eq_true c7)
                  · rw [decide_eq_true (show 1 ≤ L.ext.length ∧ L.ext.length ≤ 16 by omega), Bool.true_and]
                    have h := rValid_l0 L t ht ok hl L.ext.length 0 (by omega)
                    rw [List.drop_zero] at h
                    refine Ev.step (f := fun k => q7Valid.l0 k t ((0 : Nat) : Int) L.id L.unit L.name L.note L.ext) (fun k => ?_) h
                    simp only [q7Valid.j0]
                    rw [if_neg (by simpa using c7)]
                    rfl
  · rw [decide_eq_false ht, Bool.false_and]
    simp only [Bool.false_eq_true, if_false]
    exact no true rfl
theorem requal_ev (L M : Lab) (h : L.ext.length ≤ 1099511627776) : Ev (fun k => q7Equal.f k L.id L.unit L.name L.note L.ext M.id M.unit M.name M.note M.ext) (decide (L = M)) := by
  unfold q7Equal.f
  by_cases c0 : L.id = M.id
  · simp only [if_pos c0]
    by_cases c1 : L.unit = M.unit
    · simp only [if_pos c1]
      by_cases c2 : L.name.toList = M.name.toList
      · simp only [if_pos c2]
        by_cases c3 : L.note.toList = M.note.toList
        · simp only [if_pos c3]
          refine Ev.bind (same_ev L.ext M.ext h) ?_
          have e : decide (L.ext = M.ext) = decide (L = M) := by
            rw [decide_eq_decide]
            exact ⟨fun c4 => lab_ext c0 c1 ((list_eq _ _).1 c2) ((list_eq _ _).1 c3) c4, fun e => by rw [e]⟩
          rw [e]
          exact Ev.now _
        · simp only [if_neg c3]
          rw [decide_eq_false (fun e => c3 (by rw [e]))]
          exact Ev.now _
      · simp only [if_neg c2]
        rw [decide_eq_false (fun e => c2 (by rw [e]))]
        exact Ev.now _
    · simp only [if_neg c1]
      rw [decide_eq_false (fun e => c1 (by rw [e]))]
      exact Ev.now _
  · simp only [if_neg c0]
    rw [decide_eq_false (fun e => c0 (by rw [e]))]
    exact Ev.now _
theorem rencode_l0 (L : Lab) (hl : L.ext.length ≤ 16) (hr : ∀ r ∈ L.ext, 0 ≤ r.f0 ∧ r.f0 ≤ 127 ∧ 1 ≤ r.f1 ∧ r.f1 ≤ 128) : ∀ (d i : Nat) (s : ByteArray), i + d = L.ext.length → s.size + (runsE (L.ext.drop i)).size ≤ 1024 → Ev (fun k => q7Encode.l0 k s (i : Int) L.id L.unit L.name L.note L.ext) (fillE (s ++ runsE (L.ext.drop i))) := by
  intro d
  induction d with
  | zero =>
    intro i s hi hs
    rw [List.drop_of_length_le (by omega)] at hs ⊢
    have hz : s ++ runsE [] = s := ba_ext (by rw [data_append]; simp [runsE])
    rw [hz]
    refine Ev.step (f := fun k => (q1Padded.f k s 1024).bind fun t => some t) (fun k => by simp only [q7Encode.l0]; rw [if_neg (by omega)]) ?_
    exact Ev.bind (padded_ev s (by omega)) (Ev.now _)
  | succ d ih =>
    intro i s hi hs
    have hlt : i < L.ext.length := by omega
    have hq := hr (rd_T103 L.ext (i : Int)) (by rw [rd_at L.ext i hlt]; exact List.getElem_mem hlt)
    rw [drop_at L.ext i hlt] at hs ⊢
    obtain ⟨r, er⟩ : ∃ r, rd_T103 L.ext (i : Int) = r := ⟨_, rfl⟩
    rw [er] at hq hs ⊢
    simp only [runsE, ByteArray.size_append] at hs ⊢
    have nxt := ih (i + 1) (s ++ numE r.f0 ++ numE r.f1) (by omega) (by simp only [ByteArray.size_append]; omega)
    rw [show s ++ (numE r.f0 ++ (numE r.f1 ++ runsE (L.ext.drop (i + 1)))) = s ++ numE r.f0 ++ numE r.f1 ++ runsE (L.ext.drop (i + 1)) by simp only [ba_append_assoc]]
    refine Ev.step (f := fun k => (q1Number.f k r.f0).bind _) (fun k => by simp only [q7Encode.l0]; rw [if_pos (by omega), if_pos (by omega), er, u64_in r.f0 (by omega) (by omega)]) ?_
    refine Ev.bind (number_ev r.f0 (by omega) (by omega)) ?_
    simp only [if_pos (show s.size + (numE r.f0).size ≤ 9223372036854775807 by omega), u64_in r.f1 (show 0 ≤ r.f1 by omega) (by omega)]
    refine Ev.bind (number_ev r.f1 (by omega) (by omega)) ?_
    have h2 : (s ++ numE r.f0).size + (numE r.f1).size ≤ 9223372036854775807 := by rw [ByteArray.size_append]; omega
    simp only [if_pos h2]
    rw [wrap_succ i (by omega)]
    exact nxt
theorem rencode_some (L : Lab) (t : Int) (h : validLab L t = true) : Ev (fun k => q7Encode.j0 k t false L.id L.unit L.name L.note L.ext) (fillE (bodyE L)) := by
  obtain ⟨h0, h1, h2, h3, h4, h5, h6, h7, h8, h9, h10⟩ := valid_facts h
  have ok : okL L.ext = true := okL_mk (fun r hr => by have := h10 r hr; exact decide_eq_true (by omega)) (by omega)
  have bs := body_size h6 h7 h9
  have n0 := numE_size L.id
  have n1 := numE_size L.unit
  have n2 := numE_size (L.name.size : Int)
  have n3 := numE_size (L.note.size : Int)
  have n4 := numE_size (L.ext.length : Int)
  have z2 : (textE L.name).size = (numE (L.name.size : Int)).size + L.name.size := ByteArray.size_append
  have z3 : (textE L.note).size = (numE (L.note.size : Int)).size + L.note.size := ByteArray.size_append
  obtain ⟨s, hs⟩ : ∃ s, s = numE L.id ++ numE L.unit ++ textE L.name ++ textE L.note ++ numE L.ext.length := ⟨_, rfl⟩
  have hb : bodyE L = s ++ runsE L.ext := by rw [hs]; unfold bodyE; simp only [ba_append_assoc]
  rw [hb, ByteArray.size_append] at bs
  have nxt := rencode_l0 L h9 h10 L.ext.length 0 s (by omega) (by rw [List.drop_zero]; exact bs)
  rw [List.drop_zero, ← hb] at nxt
  refine Ev.step (f := fun k => (q7Valid.f k L.id L.unit L.name L.note L.ext t).bind _) (fun k => by simp only [q7Encode.j0]; rw [if_neg (by simp)]) ?_
  refine Ev.bind (rValid_ev L t ok (by omega)) ?_
  simp only [h, if_true]
  rw [u64_in L.id (by omega) (by omega), u64_in L.unit (by omega) (by omega), u64_in (L.ext.length : Int) (by omega) (by omega)]
  refine Ev.bind (number_ev L.id (by omega) (by omega)) (Ev.bind (number_ev L.unit (by omega) (by omega)) ?_)
  simp only [if_pos (show (numE L.id).size + (numE L.unit).size ≤ 9223372036854775807 by omega)]
  refine Ev.bind (reftext_ev L.name (by omega)) ?_
  have e1 : (numE L.id ++ numE L.unit).size + (textE L.name).size ≤ 9223372036854775807 := by simp only [ByteArray.size_append]; omega
  simp only [if_pos e1]
  refine Ev.bind (reftext_ev L.note (by omega)) ?_
  have e2 : (numE L.id ++ numE L.unit ++ textE L.name).size + (textE L.note).size ≤ 9223372036854775807 := by simp only [ByteArray.size_append]; omega
  simp only [if_pos e2]
  refine Ev.bind (number_ev (L.ext.length : Int) (by omega) (by omega)) ?_
  have e3 : (numE L.id ++ numE L.unit ++ textE L.name ++ textE L.note).size + (numE (L.ext.length : Int)).size ≤ 9223372036854775807 := by simp only [ByteArray.size_append]; omega
  simp only [if_pos e3, ← hs]
  exact nxt
theorem rencode_ev (L : Lab) (t : Int) (ok : okL L.ext = true) (hl : L.ext.length ≤ 30) : Ev (fun k => q7Encode.f k L.id L.unit L.name L.note L.ext t) (encV L t) := by
  have tail : ∀ b : Bool, b = false → encV L t = (if validLab L t = true then fillE (bodyE L) else ⟨#[]⟩) → Ev (fun k => q7Encode.j0 k t b L.id L.unit L.name L.note L.ext) (encV L t) := by
    rintro b rfl he
    rw [he]
    by_cases h : validLab L t = true
    · rw [if_pos h]; exact rencode_some L t h
    · rw [if_neg h]
      refine Ev.step (f := fun k => (q7Valid.f k L.id L.unit L.name L.note L.ext t).bind _) (fun k => by simp only [q7Encode.j0]; rw [if_neg (by simp)]) ?_
      refine Ev.bind (rValid_ev L t ok hl) ?_
      simp only [if_neg h]
      exact Ev.now _
  unfold q7Encode.f
  rw [rvalid_is]
  simp only [Option.bind_some]
  by_cases ht : 4 ≤ t ∧ t ≤ 128
  · simp only [decide_eq_true ht, if_true]
    refine Ev.bind (requal_ev L zeroLab (okL_len ok)) ?_
    by_cases hz : L = zeroLab
    · rw [decide_eq_true hz]
      have he : encV L t = fillE ⟨#[]⟩ := if_pos ⟨ht, hz⟩
      rw [he]
      refine Ev.step (f := fun k => (q1Padded.f k ⟨#[]⟩ 1024).bind fun t => some t) (fun k => by simp only [q7Encode.j0, if_true]) ?_
      exact Ev.bind (padded_ev ⟨#[]⟩ (Nat.zero_le _)) (Ev.now _)
    · exact tail _ (decide_eq_false hz) (if_neg (fun h => hz h.2))
  · simp only [decide_eq_false ht, Bool.false_eq_true, if_false]
    exact tail false rfl (if_neg (fun h => ht h.1))
end Go.Proofs.Ytegefemkmdlmaaa.P
