/- The pure statement of WireStops: after an error every read gives zero, and nothing is left. -/
import Derived.OpenShut
import Derived.Test.YtegefemkmdlmaaaF15
import Derived.Test.YtegefemkmdlmaaaOpen
import Derived.Test.YtegefemkmdlmaaaGa
namespace Go.Proofs.Ytegefemkmdlmaaa.P
open Go.RowKit Go.Proofs.YtegefemkmdlmaaaW.PrintWords Go.Proofs.YtegefemkmdlmaaaW.PrintLast Go.Proofs.YtegefemkmdlmaaaW.PrintMore
/-- The pure statement of WireStops. -/
def dasdlaw01_WireStops.Pure : Prop := ∀ (a0 : ByteArray) (l1 : List S71), a0.size ≤ 140737488351232 → (∀ r ∈ l1, okO r) → ∃ k, dasdlaw01_WireStops.f k a0 l1 = some true
theorem stop_next (i : Nat) (h : i ≤ 1099511627776) : wrap64 ((i : Int) + 1) = ((i + 1 : Nat) : Int) := by unfold wrap64; omega
theorem stop_rd (l : List S71) (i : Nat) (h : i < l.length) : rd_T71 l (i : Int) = l[i] := by
  unfold rd_T71
  rw [Int.toNat_natCast, List.getD_eq_getElem?_getD, List.getElem?_eq_getElem h]
  rfl
theorem deadN (e : Int) (h : e ≠ 0) : readN ⟨#[]⟩ e = (0, ⟨#[]⟩, e) := by unfold readN; rw [if_neg h]
theorem deadI (e : Int) (h : e ≠ 0) : readI ⟨#[]⟩ e = (0, ⟨#[]⟩, e) := by unfold readI; rw [deadN e h]; rfl
theorem deadB (e : Int) (h : e ≠ 0) : readB ⟨#[]⟩ e = (false, ⟨#[]⟩, e) := by unfold readB; rw [if_neg h]
theorem deadC (e m : Int) (h : e ≠ 0) : readC ⟨#[]⟩ e m = (0, ⟨#[]⟩, e) := by unfold readC; rw [deadN e h]; exact if_neg h
theorem deadT (e m : Int) (h : e ≠ 0) : readT ⟨#[]⟩ e m = (⟨#[]⟩, ⟨#[]⟩, e) := by unfold readT; rw [deadC e m h]; exact if_neg h
theorem first_dead (s : ByteArray) : readT s 0 (-1) = (⟨#[]⟩, ⟨#[]⟩, 8) ∨ readT s 0 (-1) = (⟨#[]⟩, ⟨#[]⟩, 11) := by
  have hC : readC s 0 (-1) = (0, ⟨#[]⟩, 8) ∨ readC s 0 (-1) = (0, ⟨#[]⟩, 11) := by
    unfold readC readN
    rw [if_pos rfl]
    by_cases h : (decB s).2 = 0
    · rw [if_pos h]; exact Or.inr rfl
    · rw [if_neg h]; exact Or.inl rfl
  unfold readT
  rcases hC with h | h
  · rw [h]; exact Or.inl rfl
  · rw [h]; exact Or.inr rfl
theorem stops_j3 (l : List S71) (n i e : Int) (he : e ≠ 0) (h : Ev (fun k => dasdlaw01_WireStops.l0 k e l n (wrap64 (i + 1)) ⟨#[]⟩ e) true) : Ev (fun k => dasdlaw01_WireStops.j3 k e true l n i ⟨#[]⟩ e) true := by
  refine Ev.step (f := fun k => dasdlaw01_WireStops.l0 k e l n (wrap64 (i + 1)) ⟨#[]⟩ e) (fun k => ?_) h
  simp only [dasdlaw01_WireStops.j3, if_true, wire_Reader_Left.f, wire_Reader_Rest.f, Option.bind_some, end_eq]
  rw [if_neg (show ¬ (e = 0 ∧ _) from fun hh => he hh.1)]
  simp only [if_true]
  rw [if_pos (show ((ByteArray.mk #[]).size : Int) = 0 from rfl), if_pos (by simp only [ByteArray.toList_eq])]
theorem stops_l0 (l : List S71) (hl : l.length ≤ 30) (hok : ∀ r ∈ l, okO r) (e : Int) (he : e ≠ 0) : ∀ (d i : Nat), i + d = l.length → Ev (fun k => dasdlaw01_WireStops.l0 k e l (l.length : Int) (i : Int) ⟨#[]⟩ e) true := by
  intro d
  induction d with
  | zero =>
    intro i hi
    exact Ev.step (f := fun _ => some true) (fun k => by simp only [dasdlaw01_WireStops.l0]; rw [if_neg (by omega)]) (Ev.now _)
  | succ d ih =>
    intro i hi
    have hlt : i < l.length := by omega
    have ho := hok (rd_T71 l (i : Int)) (by rw [stop_rd l i hlt]; exact List.getElem_mem hlt)
    obtain ⟨o0, o1, o2, o3⟩ := ho
    have ht := Int.tmod_eq_emod_of_nonneg (b := 5) o0
    have nxt : Ev (fun k => dasdlaw01_WireStops.j3 k e true l (l.length : Int) (i : Int) ⟨#[]⟩ e) true := by
      refine stops_j3 l _ _ e he ?_
      rw [stop_next i (by omega)]
      exact ih (i + 1) (by omega)
    have c0 : ((i : Int) < (l.length : Int)) := by omega
    have c1 : (0 : Int) ≤ i := by omega
    refine Ev.step (f := fun k => dasdlaw01_WireStops.j3 k e true l (l.length : Int) (i : Int) ⟨#[]⟩ e) (fun k => ?_) nxt
    simp only [dasdlaw01_WireStops.l0]
    rw [if_pos c0, if_pos c1, if_pos c0, ht]
    simp only [number_eq, int_eq, bool_eq, count_eq _ _ _ o3, text_eq _ _ _ o3, deadN e he, deadI e he, deadB e he, deadC e _ he, deadT e _ he, Option.bind_some]
    by_cases k0 : (rd_T71 l (i : Int)).f0 % 5 = 0
    · rw [if_pos k0]; rfl
    · rw [if_neg k0]
      by_cases k1 : (rd_T71 l (i : Int)).f0 % 5 = 1
      · rw [if_pos k1]; rfl
      · rw [if_neg k1]
        by_cases k2 : (rd_T71 l (i : Int)).f0 % 5 = 2
        · rw [if_pos k2]; rfl
        · rw [if_neg k2]
          by_cases k3 : (rd_T71 l (i : Int)).f0 % 5 = 3
          · rw [if_pos k3, ByteArray.toList_eq]; rfl
          · rw [if_neg k3, if_pos (by omega)]; rfl
theorem stops_j0 (s : ByteArray) (l : List S71) (b : Bool) (hok : ∀ r ∈ l, okO r) (hb : b = false → l.length ≤ 30) : Ev (fun k => dasdlaw01_WireStops.j0 k s l b) true := by
  cases b with
  | true =>
    refine Ev.step (f := fun k => (dasdlaw01_awake.f k).bind fun t => some t) (fun k => by simp only [dasdlaw01_WireStops.j0, if_true]) ?_
    exact Ev.bind awake1 (Ev.now _)
  | false =>
    have h1 : ∀ e : Int, e ≠ 0 → Ev (fun k => dasdlaw01_WireStops.j1 k l e false ⟨#[]⟩ e) true := fun e he => by
      refine Ev.step (f := fun k => dasdlaw01_WireStops.l0 k e l (l.length : Int) 0 ⟨#[]⟩ e) (fun k => by simp only [dasdlaw01_WireStops.j1, Bool.false_eq_true, if_false]) ?_
      exact stops_l0 l (hb rfl) hok e he l.length 0 (by omega)
    rcases first_dead s with h | h
    · refine Ev.step (f := fun k => dasdlaw01_WireStops.j1 k l 8 false ⟨#[]⟩ 8) (fun k => ?_) (h1 8 (by decide))
      simp only [dasdlaw01_WireStops.j0, Bool.false_eq_true, if_false, wire_NewReader.f, Option.bind_some, text_eq _ _ (-1) (by decide), h, end_eq]
      rfl
    · refine Ev.step (f := fun k => dasdlaw01_WireStops.j1 k l 11 false ⟨#[]⟩ 11) (fun k => ?_) (h1 11 (by decide))
      simp only [dasdlaw01_WireStops.j0, Bool.false_eq_true, if_false, wire_NewReader.f, Option.bind_some, text_eq _ _ (-1) (by decide), h, end_eq]
      rfl
end Go.Proofs.Ytegefemkmdlmaaa.P
namespace Go.Proofs.Ytegefemkmdlmaaa.Pure
open Go.Proofs.Ytegefemkmdlmaaa.P
open Go.RowKit Go.Proofs.YtegefemkmdlmaaaW.PrintWords Go.Proofs.YtegefemkmdlmaaaW.PrintLast Go.Proofs.YtegefemkmdlmaaaW.PrintMore
theorem WireStops : dasdlaw01_WireStops.Pure := by
  intro s l hs hok
  apply Ev.rounds
  unfold dasdlaw01_WireStops.f
  refine Ev.bind awake1 ?_
  simp only [if_true]
  by_cases h : (s.size : Int) > 300
  · simp only [if_pos h]
    exact stops_j0 s l true hok (fun h => by simp at h)
  · simp only [if_neg h]
    refine stops_j0 s l _ hok (fun h => ?_)
    have := of_decide_eq_false h
    omega
end Go.Proofs.Ytegefemkmdlmaaa.Pure
