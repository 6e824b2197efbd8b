/- The pure statement of WireReads: any operations read from any bytes what the specification reads, and leave the same bytes and error. -/
import Derived.OpenShut
import Derived.Test.YtegefemkmdlmaaaF14
import Derived.Test.YtegefemkmdlmaaaOpenW
import Derived.Test.YtegefemkmdlmaaaGa
import Derived.Test.YtegefemkmdlmaaaRef1
namespace Go.Proofs.Ytegefemkmdlmaaa.P
open Go.RowKit Go.Proofs.YtegefemkmdlmaaaW.PrintWords Go.Proofs.YtegefemkmdlmaaaW.PrintLast Go.Proofs.YtegefemkmdlmaaaW.PrintMore
/-- The pure statement of WireReads. -/
def dasdlaw01_WireReads.Pure : Prop := ∀ (a0 : ByteArray) (l1 : List S71), a0.size ≤ 140737488351232 → (∀ r ∈ l1, okO r) → ∃ k, dasdlaw01_WireReads.f k a0 l1 = some true
theorem wrap_next (i : Nat) (h : i ≤ 1099511627776) : wrap64 ((i : Int) + 1) = ((i + 1 : Nat) : Int) := by unfold wrap64; omega
theorem rd71_at (l : List S71) (i : Nat) (h : i < l.length) : rd_T71 l (i : Int) = l[i] := by
  unfold rd_T71
  rw [Int.toNat_natCast, List.getD_eq_getElem?_getD, List.getElem?_eq_getElem h]
  rfl
theorem reads_j2 (l : List S71) (n i : Int) (s : ByteArray) (e : Int) (h : Ev (fun k => dasdlaw01_WireReads.l0 k l n (wrap64 (i + 1)) s e s e) true) : Ev (fun k => dasdlaw01_WireReads.j2 k true l n i s e s e) true := by
  refine Ev.step (f := fun k => dasdlaw01_WireReads.l0 k l n (wrap64 (i + 1)) s e s e) (fun k => ?_) h
  simp only [dasdlaw01_WireReads.j2, if_true, wire_Reader_Left.f, wire_Reader_Rest.f, Option.bind_some, end_eq, refEnd_eq]
theorem reads_l0 (l : List S71) (hl : l.length ≤ 30) (hok : ∀ r ∈ l, okO r) : ∀ (d i : Nat) (s : ByteArray) (e : Int), i + d = l.length → Ev (fun k => dasdlaw01_WireReads.l0 k l (l.length : Int) (i : Int) s e s e) true := by
  intro d
  induction d with
  | zero =>
    intro i s e hi
    exact Ev.step (f := fun _ => some true) (fun k => by simp only [dasdlaw01_WireReads.l0]; rw [if_neg (by omega)]) (Ev.now _)
  | succ d ih =>
    intro i s e hi
    have hlt : i < l.length := by omega
    have ho := hok (rd_T71 l (i : Int)) (by rw [rd71_at l i hlt]; exact List.getElem_mem hlt)
    obtain ⟨o0, o1, o2, o3⟩ := ho
    have ht := Int.tmod_eq_emod_of_nonneg (b := 5) o0
    have nxt : ∀ s e, Ev (fun k => dasdlaw01_WireReads.j2 k true l (l.length : Int) (i : Int) s e s e) true := fun s e => by
      refine reads_j2 l _ _ s e ?_
      rw [wrap_next i (by omega)]
      exact ih (i + 1) s e (by omega)
    have c0 : ((i : Int) < (l.length : Int)) := by omega
    have c1 : (0 : Int) ≤ i := by omega
    by_cases k0 : (rd_T71 l (i : Int)).f0 % 5 = 0
    · refine Ev.step (f := fun k => (dasdref01_ReadNumber.f k s e).bind _) (fun k => by simp only [dasdlaw01_WireReads.l0]; rw [if_pos c0, if_pos c1, if_pos c0, ht, if_pos k0]) ?_
      refine Ev.bind (refN_ev s e) ?_
      simp only [number_eq, Option.bind_some, beq_self_eq_true]
      exact nxt _ _
    · by_cases k1 : (rd_T71 l (i : Int)).f0 % 5 = 1
      · refine Ev.step (f := fun k => (dasdref01_ReadInt.f k s e).bind _) (fun k => by simp only [dasdlaw01_WireReads.l0]; rw [if_pos c0, if_pos c1, if_pos c0, ht, if_neg k0, if_pos k1]) ?_
        refine Ev.bind (refI_ev s e) ?_
        simp only [int_eq, Option.bind_some, beq_self_eq_true]
        exact nxt _ _
      · by_cases k2 : (rd_T71 l (i : Int)).f0 % 5 = 2
        · refine Ev.step (f := fun k => (dasdref01_ReadBool.f s e).bind _) (fun k => by simp only [dasdlaw01_WireReads.l0]; rw [if_pos c0, if_pos c1, if_pos c0, ht, if_neg k0, if_neg k1, if_pos k2]) ?_
          simp only [refB_eq, bool_eq, Option.bind_some, beq_self_eq_true]
          exact nxt _ _
        · by_cases k3 : (rd_T71 l (i : Int)).f0 % 5 = 3
          · refine Ev.step (f := fun k => (dasdref01_ReadText.f k s e _).bind _) (fun k => by simp only [dasdlaw01_WireReads.l0]; rw [if_pos c0, if_pos c1, if_pos c0, ht, if_neg k0, if_neg k1, if_neg k2, if_pos k3]) ?_
            refine Ev.bind (refT_ev s e _ o3) ?_
            simp only [text_eq s e _ o3, Option.bind_some, beq_self_eq_true]
            exact nxt _ _
          · have k4 : (rd_T71 l (i : Int)).f0 % 5 = 4 := by omega
            refine Ev.step (f := fun k => (dasdref01_ReadCount.f k s e _).bind _) (fun k => by simp only [dasdlaw01_WireReads.l0]; rw [if_pos c0, if_pos c1, if_pos c0, ht, if_neg k0, if_neg k1, if_neg k2, if_neg k3, if_pos k4]) ?_
            refine Ev.bind (refC_ev s e _ o3) ?_
            simp only [count_eq s e _ o3, Option.bind_some, beq_self_eq_true]
            exact nxt _ _
theorem reads_j0 (s : ByteArray) (l : List S71) (b : Bool) (hok : ∀ r ∈ l, okO r) (hb : b = false → l.length ≤ 30) : Ev (fun k => dasdlaw01_WireReads.j0 k s l b) true := by
  cases b with
  | true =>
    refine Ev.step (f := fun k => (dasdlaw01_awake.f k).bind fun t => some t) (fun k => by simp only [dasdlaw01_WireReads.j0, if_true]) ?_
    exact Ev.bind awake1 (Ev.now _)
  | false =>
    refine Ev.step (f := fun k => dasdlaw01_WireReads.l0 k l (l.length : Int) 0 s 0 s 0) (fun k => by simp only [dasdlaw01_WireReads.j0, Bool.false_eq_true, if_false, wire_NewReader.f, Option.bind_some]) ?_
    exact reads_l0 l (hb rfl) hok l.length 0 s 0 (by omega)
end Go.Proofs.Ytegefemkmdlmaaa.P
namespace Go.Proofs.Ytegefemkmdlmaaa.Pure
open Go.Proofs.Ytegefemkmdlmaaa.P
open Go.RowKit Go.Proofs.YtegefemkmdlmaaaW.PrintWords Go.Proofs.YtegefemkmdlmaaaW.PrintLast Go.Proofs.YtegefemkmdlmaaaW.PrintMore
theorem WireReads : dasdlaw01_WireReads.Pure := by
  intro s l hs hok
  apply Ev.rounds
  unfold dasdlaw01_WireReads.f
  refine Ev.bind awake1 ?_
  simp only [if_true]
  by_cases h : (s.size : Int) > 500
  · simp only [if_pos h]
    exact reads_j0 s l true hok (fun h => by simp at h)
  · simp only [if_neg h]
    refine reads_j0 s l _ hok (fun h => ?_)
    have := of_decide_eq_false h
    omega
end Go.Proofs.Ytegefemkmdlmaaa.Pure
