/- Plain laws on labels: what Decode answers. -/
import Derived.Test.YtegefemkmdlmaaaF58
import Derived.Test.YtegefemkmdlmaaaLabB
namespace Go.Proofs.Ytegefemkmdlmaaa.P
open Go.RowKit Go.Proofs.YtegefemkmdlmaaaW.PrintWords Go.Proofs.YtegefemkmdlmaaaW.PrintLast Go.Proofs.YtegefemkmdlmaaaW.PrintMore
/-- A label and an error, as the functions give them. -/
def tup (x : Lab × Int) : Int × Int × ByteArray × ByteArray × List S103 × Int := (x.1.id, x.1.unit, x.1.name, x.1.note, x.1.ext, x.2)
/-- What a read label counts for. -/
def judge (x0 : ByteArray) (t : Int) (L : Lab) : Lab × Int := if validLab L t = true ∧ encV L t = x0 then (L, 0) else (zeroLab, 11)
/-- What Decode answers. -/
def decS (x0 : ByteArray) (t : Int) : Lab × Int :=
  if (4 ≤ t ∧ t ≤ 128) ∧ x0.size = 1024 then (if x0 = fillE ⟨#[]⟩ then (zeroLab, 0) else judge x0 t (rdLab 128 x0).1) else (zeroLab, 11)
theorem ldecode_l0 (x0 : ByteArray) (t id unit : Int) (name note : ByteArray) (n : Int) (hn : n ≤ 16) : ∀ (d i : Nat) (s : ByteArray) (e : Int) (acc : List S103), (i : Int) + d = n → acc.length = i → (∀ r ∈ acc, okR r = true) →
    Ev (fun k => label_Decode.l0 k x0 t n (i : Int) s e id unit name note acc) (tup (judge x0 t ⟨id, unit, name, note, acc ++ (rdRuns 128 d s e).1⟩)) := by
  intro d
  induction d with
  | zero =>
    intro i s e acc hi ha hok
    simp only [rdRuns, List.append_nil]
    obtain ⟨L, hL⟩ : ∃ L : Lab, L = ⟨id, unit, name, note, acc⟩ := ⟨_, rfl⟩
    have hl : acc.length ≤ 1099511627776 := by omega
    have ok : okL L.ext = true := by rw [hL]; exact okL_mk hok hl
    have hv : label_Valid.f id unit name note acc t = some (validLab L t) := by
      unfold label_Valid.f validLab
      rw [hL] at ok ⊢
      exact if_pos ok
    rw [← hL]
    have he := encode_ev L t ok
    rw [hL] at he
    unfold judge
    by_cases c : validLab L t = true
    · refine Ev.step (f := fun k => (label_Encode.f k id unit name note acc t).bind _) (fun k => by simp only [label_Decode.l0]; rw [if_neg (by omega), hv, Option.bind_some, if_pos c]) ?_
      refine Ev.bind he ?_
      rw [← hL]
      by_cases c2 : encV L t = x0
      · rw [if_pos (show _ ∧ _ from ⟨c, c2⟩)]
        simp only [c2, if_true]
        rw [hL]
        exact Ev.now _
      · rw [if_neg (show ¬ (validLab L t = true ∧ encV L t = x0) from fun h => c2 h.2)]
        simp only [if_neg (fun h => c2 ((list_eq _ _).1 h))]
        exact Ev.now _
    · rw [if_neg (fun h => c h.1)]
      exact Ev.step (f := fun _ => some (tup (zeroLab, 11))) (fun k => by simp only [label_Decode.l0]; rw [if_neg (by omega), hv, Option.bind_some, if_neg c]; rfl) (Ev.now _)
  | succ d ih =>
    intro i s e acc hi ha hok
    have a := readC_most s e 128 (by decide)
    have b := readC_most (readC s e 128).2.1 (readC s e 128).2.2 128 (by decide)
    have nxt := ih (i + 1) (readC (readC s e 128).2.1 (readC s e 128).2.2 128).2.1 (readC (readC s e 128).2.1 (readC s e 128).2.2 128).2.2 (acc ++ [⟨(readC s e 128).1, (readC (readC s e 128).2.1 (readC s e 128).2.2 128).1⟩]) (by omega) (by simp [ha]) (fun r hr => by
      rcases List.mem_append.1 hr with hr | hr
      · exact hok r hr
      · rw [List.mem_singleton.1 hr]
        exact decide_eq_true (by simp only []; omega))
    simp only [rdRuns]
    rw [List.append_assoc, List.singleton_append] at nxt
    refine Ev.step (f := fun k => label_Decode.l0 k x0 t n ((i + 1 : Nat) : Int) (readC (readC s e 128).2.1 (readC s e 128).2.2 128).2.1 (readC (readC s e 128).2.1 (readC s e 128).2.2 128).2.2 id unit name note (acc ++ [⟨(readC s e 128).1, (readC (readC s e 128).2.1 (readC s e 128).2.2 128).1⟩])) (fun k => ?_) nxt
    simp only [label_Decode.l0]
    rw [if_pos (by omega), count_eq s e 128 (by decide), Option.bind_some, count_eq _ _ 128 (by decide), Option.bind_some, if_pos (by omega), wrap_succ i (by omega)]
theorem ldecode_ev (x0 : ByteArray) (t : Int) : Ev (fun k => label_Decode.f k x0 t) (tup (decS x0 t)) := by
  have bad : Ev (fun k => label_Decode.j0 k x0 t true) (tup (zeroLab, 11)) :=
    Ev.step (f := fun _ => some (tup (zeroLab, 11))) (fun k => by simp only [label_Decode.j0, if_true]; rfl) (Ev.now _)
  unfold label_Decode.f decS
  rw [tracksOK_is]
  simp only [Option.bind_some]
  by_cases ht : 4 ≤ t ∧ t ≤ 128
  · simp only [decide_eq_true ht, if_true]
    by_cases hs : x0.size = 1024
    · rw [if_pos (show _ ∧ _ from ⟨ht, hs⟩), show ((x0.size : Int) != 1024) = false by rw [hs]; rfl]
      by_cases hz : x0 = fillE ⟨#[]⟩
      · rw [if_pos hz]
        refine Ev.step (f := fun _ => some (tup (zeroLab, 0))) (fun k => ?_) (Ev.now _)
        simp only [label_Decode.j0]
        rw [if_neg (by simp), fill_eq _ (Nat.zero_le _), Option.bind_some, if_pos (by rw [hz])]
        rfl
      · rw [if_neg hz]
        have nn := readC_most (readT (readT (readC (readC x0 0 1099511627776).2.1 (readC x0 0 1099511627776).2.2 1099511627776).2.1 (readC (readC x0 0 1099511627776).2.1 (readC x0 0 1099511627776).2.2 1099511627776).2.2 31).2.1 (readT (readC (readC x0 0 1099511627776).2.1 (readC x0 0 1099511627776).2.2 1099511627776).2.1 (readC (readC x0 0 1099511627776).2.1 (readC x0 0 1099511627776).2.2 1099511627776).2.2 31).2.2 400).2.1 (readT (readT (readC (readC x0 0 1099511627776).2.1 (readC x0 0 1099511627776).2.2 1099511627776).2.1 (readC (readC x0 0 1099511627776).2.1 (readC x0 0 1099511627776).2.2 1099511627776).2.2 31).2.1 (readT (readC (readC x0 0 1099511627776).2.1 (readC x0 0 1099511627776).2.2 1099511627776).2.1 (readC (readC x0 0 1099511627776).2.1 (readC x0 0 1099511627776).2.2 1099511627776).2.2 31).2.2 400).2.2 16 (by decide)
        refine Ev.step (f := fun k => label_Decode.l0 k x0 t (readC (readT (readT (readC (readC x0 0 1099511627776).2.1 (readC x0 0 1099511627776).2.2 1099511627776).2.1 (readC (readC x0 0 1099511627776).2.1 (readC x0 0 1099511627776).2.2 1099511627776).2.2 31).2.1 (readT (readC (readC x0 0 1099511627776).2.1 (readC x0 0 1099511627776).2.2 1099511627776).2.1 (readC (readC x0 0 1099511627776).2.1 (readC x0 0 1099511627776).2.2 1099511627776).2.2 31).2.2 400).2.1 (readT (readT (readC (readC x0 0 1099511627776).2.1 (readC x0 0 1099511627776).2.2 1099511627776).2.1 (readC (readC x0 0 1099511627776).2.1 (readC x0 0 1099511627776).2.2 1099511627776).2.2 31).2.1 (readT (readC (readC x0 0 1099511627776).2.1 (readC x0 0 1099511627776).2.2 1099511627776).2.1 (readC (readC x0 0 1099511627776).2.1 (readC x0 0 1099511627776).2.2 1099511627776).2.2 31).2.2 400).2.2 16).1 ((0 : Nat) : Int) _ _ _ _ _ _ []) (fun k => ?_) (ldecode_l0 x0 t _ _ _ _ _ nn.2 _ 0 _ _ [] (by rw [Int.toNat_of_nonneg nn.1]; exact Int.zero_add _) rfl (fun r hr => by cases hr))
        simp only [label_Decode.j0]
        rw [if_neg (by simp), fill_eq _ (Nat.zero_le _), Option.bind_some, if_neg (fun h => hz ((list_eq _ _).1 h))]
        simp only [wire_NewReader.f, Option.bind_some]
        rw [count_eq x0 0 1099511627776 (by decide)]
        simp only [Option.bind_some]
        rw [count_eq _ _ 1099511627776 (by decide)]
        simp only [Option.bind_some]
        rw [text_eq _ _ 31 (by decide)]
        simp only [Option.bind_some]
        rw [text_eq _ _ 400 (by decide)]
        simp only [Option.bind_some]
        rw [count_eq _ _ 16 (by decide)]
        simp only [Option.bind_some]
        rfl
    · rw [if_neg (fun h => hs h.2), show ((x0.size : Int) != 1024) = true from bne_iff_ne.2 (by omega)]
      exact bad
  · simp only [decide_eq_false ht, Bool.false_eq_true, if_false]
    rw [if_neg (fun h => ht h.1)]
    exact bad
/-- A valid label's encoding is read again. -/
theorem decS_enc (L : Lab) (t : Int) (h : validLab L t = true) : decS (encV L t) t = (L, 0) := by
  have hs := encV_size_valid h
  have he := encV_valid h
  obtain ⟨h0, h1, _⟩ := valid_facts h
  unfold decS
  rw [if_pos ⟨⟨h0, h1⟩, hs⟩, if_neg (by rw [he]; exact enc_not_zero L t h)]
  unfold judge
  rw [he, rdLab_enc 128 (by decide) (by decide) L t h]
  simp only []
  rw [if_pos ⟨h, he⟩]
/-- What Decode answers is no label with error 11, or a label whose encoding stood there. -/
theorem decS_cases (x0 : ByteArray) (t : Int) : decS x0 t = (zeroLab, 11) ∨ ((decS x0 t).2 = 0 ∧ encV (decS x0 t).1 t = x0 ∧ okL (decS x0 t).1.ext = true) := by
  unfold decS
  by_cases h : (4 ≤ t ∧ t ≤ 128) ∧ x0.size = 1024
  · rw [if_pos h]
    by_cases hz : x0 = fillE ⟨#[]⟩
    · rw [if_pos hz]
      refine Or.inr ⟨rfl, ?_, rfl⟩
      rw [hz]
      exact if_pos ⟨h.1, rfl⟩
    · rw [if_neg hz]
      unfold judge
      by_cases c : validLab (rdLab 128 x0).1 t = true ∧ encV (rdLab 128 x0).1 t = x0
      · rw [if_pos c]
        obtain ⟨h0, h1, h2, h3, h4, h5, h6, h7, h8, h9, h10⟩ := valid_facts c.1
        have hl : (rdLab 128 x0).1.ext.length ≤ 1099511627776 := by omega
        exact Or.inr ⟨rfl, c.2, okL_mk (fun r hr => by have := h10 r hr; exact decide_eq_true (by omega)) hl⟩
      · rw [if_neg c]; exact Or.inl rfl
  · rw [if_neg h]; exact Or.inl rfl
end Go.Proofs.Ytegefemkmdlmaaa.P
