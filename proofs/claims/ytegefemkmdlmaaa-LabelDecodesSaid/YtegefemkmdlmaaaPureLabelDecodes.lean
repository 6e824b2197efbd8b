/- The pure statement of LabelDecodes: what is decoded is what the specification decodes. -/
import Derived.Test.YtegefemkmdlmaaaF23
import Derived.Test.YtegefemkmdlmaaaF92
import Derived.Test.YtegefemkmdlmaaaF121
import Derived.Test.YtegefemkmdlmaaaLabC
import Derived.Test.YtegefemkmdlmaaaLabR
import Derived.Test.YtegefemkmdlmaaaRefL
namespace Go.Proofs.Ytegefemkmdlmaaa.Pure
open Go.RowKit Go.Proofs.Ytegefemkmdlmaaa.P Go.Proofs.YtegefemkmdlmaaaW.PrintWords Go.Proofs.YtegefemkmdlmaaaW.PrintLast Go.Proofs.YtegefemkmdlmaaaW.PrintMore
theorem zero_l0 (s : ByteArray) (hs : s.size ≤ 1024) : ∀ (d i : Nat), i + d = s.size → ∃ b, Ev (fun k => q1Zero.l0 k s (i : Int)) b ∧ (b = true ↔ ∀ j, i ≤ j → j < s.size → bt s j = 0) := by
  intro d
  induction d with
  | zero =>
    intro i hi
    refine ⟨true, Ev.step (f := fun _ => some true) (fun k => by simp only [q1Zero.l0]; rw [if_neg (by omega)]) (Ev.now _), ?_⟩
    exact ⟨fun _ j h0 h1 => by omega, fun _ => rfl⟩
  | succ d ih =>
    intro i hi
    by_cases c : bt s i = 0
    · obtain ⟨b, h1, h2⟩ := ih (i + 1) (by omega)
      refine ⟨b, Ev.step (f := fun k => q1Zero.l0 k s ((i + 1 : Nat) : Int)) (fun k => by simp only [q1Zero.l0]; rw [if_pos (by omega), if_pos (by omega), if_pos c, wrap_succ i (by omega)]) h1, ?_⟩
      rw [h2]
      constructor
      · intro h j h0 h3
        by_cases e : j = i
        · rw [e]; exact c
        · exact h j (by omega) h3
      · intro h j h0 h3; exact h j (by omega) h3
    · refine ⟨false, Ev.step (f := fun _ => some false) (fun k => by simp only [q1Zero.l0]; rw [if_pos (by omega), if_pos (by omega), if_neg c]) (Ev.now _), ?_⟩
      exact ⟨fun h => by simp at h, fun h => absurd (h i (Nat.le_refl _) (by omega)) c⟩
theorem drop_zeros (s : ByteArray) : ∀ (d i : Nat), i + d = s.size → (∀ j, i ≤ j → j < s.size → bt s j = 0) → (numsB s).drop i = List.replicate d 0 := by
  intro d
  induction d with
  | zero => intro i hi _; exact numsB_drop_nil s i (by omega)
  | succ d ih =>
    intro i hi h
    rw [numsB_drop s i (by omega), h i (Nat.le_refl _) (by omega), ih (i + 1) (by omega) (fun j h0 h1 => h j (by omega) h1)]
    rfl
theorem numsB_zeros (n : Nat) : numsB (zerosE n) = List.replicate n 0 := by
  unfold zerosE
  exact numsB_str _ (fun x hx => by rw [(List.mem_replicate.1 hx).2]; decide)
theorem zeros_iff (s : ByteArray) (hs : s.size = 1024) : (∀ j, 0 ≤ j → j < s.size → bt s j = 0) ↔ s = fillE ⟨#[]⟩ := by
  rw [fill_zero]
  constructor
  · intro h
    apply numsB_inj
    have := drop_zeros s 1024 0 (by omega) (fun j h0 h1 => h j h0 h1)
    rw [List.drop_zero] at this
    rw [this, numsB_zeros]
  · rintro e j _ hj
    have h := numsB_drop s j hj
    have h2 : (numsB s).drop j = List.replicate (1024 - j) 0 := by rw [e, numsB_zeros, List.drop_replicate]
    rw [h2] at h
    obtain ⟨n, hn⟩ : ∃ n, 1024 - j = n + 1 := ⟨1024 - j - 1, by omega⟩
    rw [hn, List.replicate_succ] at h
    exact (List.cons.inj h).1.symm
theorem rzero_ev (s : ByteArray) (hs : s.size = 1024) : Ev (fun k => q1Zero.f k s) (decide (s = fillE ⟨#[]⟩)) := by
  obtain ⟨b, h1, h2⟩ := zero_l0 s (by omega) s.size 0 (by omega)
  have e : b = decide (s = fillE ⟨#[]⟩) := by
    rw [Bool.eq_iff_iff, h2, zeros_iff s hs, decide_eq_true_iff]
  rw [← e]
  exact h1
/-- What the reference says of a label read. -/
def rjudge (x0 : ByteArray) (t : Int) (q : Lab × ByteArray × Int) : Lab × Int := if q.2.2 = 0 ∧ encV q.1 t = x0 then (q.1, 0) else (zeroLab, 11)
theorem rdecode_l0 (x0 : ByteArray) (t id unit : Int) (name note : ByteArray) (n : Int) (hn : n ≤ 16) : ∀ (d i : Nat) (s : ByteArray) (e : Int) (acc : List S103), (i : Int) + d = n → acc.length = i → (∀ r ∈ acc, okR r = true) →
    Ev (fun k => q7Decode.l0 k x0 t n (i : Int) s e id unit name note acc) (tup (rjudge x0 t (⟨id, unit, name, note, acc ++ (rdRuns 127 d s e).1⟩, (rdRuns 127 d s e).2))) := by
  intro d
  induction d with
  | zero =>
    intro i s e acc hi ha hok
    simp only [rdRuns, List.append_nil]
    obtain ⟨L, hL⟩ : ∃ L : Lab, L = ⟨id, unit, name, note, acc⟩ := ⟨_, rfl⟩
    have hl : acc.length ≤ 1099511627776 := by omega
    have h30 : acc.length ≤ 30 := by omega
    have ok : okL L.ext = true := by rw [hL]; exact okL_mk hok hl
    rw [← hL]
    have he := rencode_ev L t ok (by rw [hL]; exact h30)
    rw [hL] at he
    unfold rjudge
    by_cases c : e = 0
    · refine Ev.step (f := fun k => (q7Encode.f k id unit name note acc t).bind _) (fun k => by simp only [q7Decode.l0]; rw [if_neg (by omega), if_pos c]) ?_
      refine Ev.bind he ?_
      rw [← hL]
      by_cases c2 : encV L t = x0
      · rw [if_pos (show e = 0 ∧ encV L t = x0 from ⟨c, c2⟩)]
        simp only [c2, if_true]
        rw [hL]
        exact Ev.now _
      · rw [if_neg (show ¬ (e = 0 ∧ encV L t = x0) from fun h => c2 h.2)]
        simp only [if_neg (fun h => c2 ((list_eq _ _).1 h))]
        exact Ev.now _
    · rw [if_neg (show ¬ (e = 0 ∧ encV L t = x0) from fun h => c h.1)]
      exact Ev.step (f := fun _ => some (tup (zeroLab, 11))) (fun k => by simp only [q7Decode.l0]; rw [if_neg (by omega), if_neg c]; rfl) (Ev.now _)
  | succ d ih =>
    intro i s e acc hi ha hok
    have a := readC_most s e 127 (by decide)
    have b := readC_most (readC s e 127).2.1 (readC s e 127).2.2 128 (by decide)
    have nxt := ih (i + 1) (readC (readC s e 127).2.1 (readC s e 127).2.2 128).2.1 (readC (readC s e 127).2.1 (readC s e 127).2.2 128).2.2 (acc ++ [⟨(readC s e 127).1, (readC (readC s e 127).2.1 (readC s e 127).2.2 128).1⟩]) (by omega) (by simp [ha]) (fun r hr => by
      rcases List.mem_append.1 hr with hr | hr
      · exact hok r hr
      · rw [List.mem_singleton.1 hr]
        exact decide_eq_true (by simp only []; omega))
    simp only [rdRuns]
    rw [List.append_assoc, List.singleton_append] at nxt
    refine Ev.step (f := fun k => (q1ReadCount.f k s e 127).bind _) (fun k => by simp only [q7Decode.l0]; rw [if_pos (by omega)]) ?_
    refine Ev.bind (refC_ev s e 127 (by decide)) (Ev.bind (refC_ev _ _ 128 (by decide)) ?_)
    simp only [if_pos (show acc.length < 8796093022208 by omega)]
    rw [wrap_succ i (by omega)]
    exact nxt
/-- Both ways of reading a label agree. -/
theorem judge_eq (x0 : ByteArray) (t : Int) (hs : x0.size = 1024) (hz : x0 ≠ fillE ⟨#[]⟩) : rjudge x0 t (rdLab 127 x0) = judge x0 t (rdLab 128 x0).1 := by
  have good : ∀ L : Lab, encV L t = x0 → validLab L t = true ∧ x0 = fillE (bodyE L) := by
    intro L h
    unfold encV at h
    by_cases c : (4 ≤ t ∧ t ≤ 128) ∧ L = zeroLab
    · rw [if_pos c] at h; exact absurd h.symm hz
    · rw [if_neg c] at h
      by_cases d : validLab L t = true
      · rw [if_pos d] at h; exact ⟨d, h.symm⟩
      · rw [if_neg d] at h
        rw [← h] at hs
        exact absurd hs (by decide)
  have both : ∀ L : Lab, validLab L t = true → x0 = fillE (bodyE L) → rjudge x0 t (rdLab 127 x0) = (L, 0) ∧ judge x0 t (rdLab 128 x0).1 = (L, 0) := by
    intro L h e
    have a := rdLab_enc 127 (by decide) (by decide) L t h
    have b := rdLab_enc 128 (by decide) (by decide) L t h
    rw [← e] at a b
    have v : encV L t = x0 := by rw [e]; exact encV_valid h
    unfold rjudge judge
    rw [a, b]
    exact ⟨if_pos ⟨rfl, v⟩, if_pos ⟨h, v⟩⟩
  by_cases c : (rdLab 127 x0).2.2 = 0 ∧ encV (rdLab 127 x0).1 t = x0
  · obtain ⟨g1, g2⟩ := good _ c.2
    obtain ⟨e1, e2⟩ := both _ g1 g2
    rw [e1, e2]
  · by_cases d : validLab (rdLab 128 x0).1 t = true ∧ encV (rdLab 128 x0).1 t = x0
    · obtain ⟨g1, g2⟩ := good _ d.2
      obtain ⟨e1, e2⟩ := both _ g1 g2
      rw [e1, e2]
    · unfold rjudge judge
      rw [if_neg c, if_neg d]
theorem rdecode_ev (x0 : ByteArray) (t : Int) : Ev (fun k => q7Decode.f k x0 t) (tup (decS x0 t)) := by
  have bad : Ev (fun k => q7Decode.j0 k x0 t true) (tup (zeroLab, 11)) :=
    Ev.step (f := fun _ => some (tup (zeroLab, 11))) (fun k => by simp only [q7Decode.j0, if_true]; rfl) (Ev.now _)
  unfold q7Decode.f decS
  by_cases hs : x0.size = 1024
  · simp only [if_pos (show (x0.size : Int) = 1024 by omega), rvalid_is, Option.bind_some]
    by_cases ht : 4 ≤ t ∧ t ≤ 128
    · rw [if_pos (show (4 ≤ t ∧ t ≤ 128) ∧ x0.size = 1024 from ⟨ht, hs⟩), decide_eq_true ht]
      refine Ev.step (f := fun k => (q1Zero.f k x0).bind _) (fun k => by simp only [q7Decode.j0]; rw [if_neg (by simp)]) ?_
      refine Ev.bind (rzero_ev x0 hs) ?_
      by_cases hz : x0 = fillE ⟨#[]⟩
      · rw [if_pos hz]
        simp only [decide_eq_true hz, if_true]
        exact Ev.now _
      · rw [if_neg hz]
        simp only [decide_eq_false hz, Bool.false_eq_true, if_false]
        rw [← judge_eq x0 t hs hz]
        refine Ev.bind (refC_ev x0 0 1099511627776 (by decide)) (Ev.bind (refC_ev _ _ 1099511627776 (by decide)) (Ev.bind (refT_ev _ _ 31 (by decide)) (Ev.bind (refT_ev _ _ 400 (by decide)) (Ev.bind (refC_ev _ _ 16 (by decide)) ?_))))
        have nn := readC_most (readT (readT (readC (readC x0 0 1099511627776).2.1 (readC x0 0 1099511627776).2.2 1099511627776).2.1 (readC (readC x0 0 1099511627776).2.1 (readC x0 0 1099511627776).2.2 1099511627776).2.2 31).2.1 (readT (readC (readC x0 0 1099511627776).2.1 (readC x0 0 1099511627776).2.2 1099511627776).2.1 (readC (readC x0 0 1099511627776).2.1 (readC x0 0 1099511627776).2.2 1099511627776).2.2 31).2.2 400).2.1 (readT (readT (readC (readC x0 0 1099511627776).2.1 (readC x0 0 1099511627776).2.2 1099511627776).2.1 (readC (readC x0 0 1099511627776).2.1 (readC x0 0 1099511627776).2.2 1099511627776).2.2 31).2.1 (readT (readC (readC x0 0 1099511627776).2.1 (readC x0 0 1099511627776).2.2 1099511627776).2.1 (readC (readC x0 0 1099511627776).2.1 (readC x0 0 1099511627776).2.2 1099511627776).2.2 31).2.2 400).2.2 16 (by decide)
        exact rdecode_l0 x0 t _ _ _ _ _ nn.2 _ 0 _ _ [] (by rw [Int.toNat_of_nonneg nn.1]; exact Int.zero_add _) rfl (fun r hr => by cases hr)
    · rw [if_neg (show ¬ ((4 ≤ t ∧ t ≤ 128) ∧ x0.size = 1024) from fun h => ht h.1), decide_eq_false ht]
      exact bad
  · simp only [if_neg (show ¬ (x0.size : Int) = 1024 by omega)]
    rw [if_neg (show ¬ ((4 ≤ t ∧ t ≤ 128) ∧ x0.size = 1024) from fun h => hs h.2)]
    exact bad
theorem decodes_j0 (x : ByteArray) (t : Int) (b : Bool) : Ev (fun k => dasdlaw07_LabelDecodes.j0 k x t b) true := by
  cases b with
  | true =>
    refine Ev.step (f := fun k => (dasdlaw07_awake.f k).bind fun t => some t) (fun k => by simp only [dasdlaw07_LabelDecodes.j0, if_true]) ?_
    exact Ev.bind awake7 (Ev.now _)
  | false =>
    refine Ev.step (f := fun k => (label_Decode.f k x t).bind _) (fun k => by simp only [dasdlaw07_LabelDecodes.j0, Bool.false_eq_true, if_false]; rfl) ?_
    refine Ev.bind (ldecode_ev x t) (Ev.bind (rdecode_ev x t) ?_)
    simp only [if_true]
    have hl : (decS x t).1.ext.length ≤ 1099511627776 := by
      rcases decS_cases x t with h | ⟨_, _, h2⟩
      · rw [h]; exact Nat.zero_le _
      · exact okL_len h2
    refine Ev.bind (requal_ev (decS x t).1 (decS x t).1 hl) ?_
    rw [decide_eq_true rfl]
    exact Ev.now _
theorem LabelDecodes : dasdlaw07_LabelDecodes.Pure := by
  intro x t _ _
  apply Ev.rounds
  unfold dasdlaw07_LabelDecodes.f
  refine Ev.bind awake7 ?_
  simp only [if_true]
  exact decodes_j0 x t _
end Go.Proofs.Ytegefemkmdlmaaa.Pure
