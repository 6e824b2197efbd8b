import Derived.Test.YtegefemkmdlmaaaF0
import Derived.Test.YtegefemkmdlmaaaF55
namespace Go.Proofs.Ytegefemkmdlmaaa.P
open Go.RowKit Go.Proofs.YtegefemkmdlmaaaW.PrintWords Go.Proofs.YtegefemkmdlmaaaW.PrintLast Go.Proofs.YtegefemkmdlmaaaW.PrintMore
attribute [local go_sem] max2_int min2_int max_two min_two max_three min_three max_four min_four
set_option linter.unusedVariables false
set_option linter.unusedSimpArgs false
mutual
def q5Disjoint.l0:Nat→List Int→Int→Option (Bool)
 | 0,_,_=>none
 | k + 1,x3,x4=>if x4 < (x3.length:Int) then (q5Disjoint.l1 k x3 x4 0) else (some true)
def q5Disjoint.l1:Nat→List Int→Int→Int→Option (Bool)
 | 0,_,_,_=>none
 | k + 1,x3,x4,x5=>if x5 < x4 then (if 0≤x4 then (if x4 < (x3.length:Int) then (if 0≤x5 then (if x5 < (x3.length:Int) then (if (rd x3 x4)=(rd x3 x5) then (some false) else (q5Disjoint.l1 k x3 x4 (wrap64 (x5 + 1)))) else (none)) else (none)) else (none)) else (none)) else (q5Disjoint.l0 k x3 (wrap64 (x4 + 1)))
end
def q5Disjoint.f (k:Nat) (l0:List (S103)):Option (Bool):=(q5Sequence.f k l0).bind fun t500=>(q5Disjoint.l0 k t500 0)
theorem q5Disjoint.mono_l:∀ k,(∀ y0 y1,LeO (q5Disjoint.l0 k y0 y1) (q5Disjoint.l0 (k + 1) y0 y1))∧(∀ y0 y1 y2,LeO (q5Disjoint.l1 k y0 y1 y2) (q5Disjoint.l1 (k + 1) y0 y1 y2))
 | 0=>⟨fun _ _ r h=>by simp [q5Disjoint.l0] at h,fun _ _ _ r h=>by simp [q5Disjoint.l1] at h⟩
 | k + 1=>by
  obtain ⟨ih0,ih1⟩:=q5Disjoint.mono_l k
  refine ⟨?_,?_⟩
  ·intro y0 y1
   unfold q5Disjoint.l0
   repeat' first
   | (with_reducible exact ih0 _ _)
   | (with_reducible exact ih1 _ _ _)
   | (with_reducible exact q5Sequence.mono _ _)
   | (with_reducible exact LeO.refl _)
   | (with_reducible exact LeO.none _)
   | (with_reducible refine LeO.ite ?_ ?_)
   | (with_reducible refine LeO.bind ?_ (fun _=>?_))
   | exact ih0 _ _
   | exact ih1 _ _ _
   | exact q5Sequence.mono _ _
   | exact LeO.none _
   | refine LeO.ite ?_ ?_
   | refine LeO.bind ?_ (fun _=>?_)
  intro y0 y1 y2
  unfold q5Disjoint.l1
  repeat' first
  | (with_reducible exact ih0 _ _)
  | (with_reducible exact ih1 _ _ _)
  | (with_reducible exact q5Sequence.mono _ _)
  | (with_reducible exact LeO.refl _)
  | (with_reducible exact LeO.none _)
  | (with_reducible refine LeO.ite ?_ ?_)
  | (with_reducible refine LeO.bind ?_ (fun _=>?_))
  | exact ih0 _ _
  | exact ih1 _ _ _
  | exact q5Sequence.mono _ _
  | exact LeO.none _
  | refine LeO.ite ?_ ?_
  | refine LeO.bind ?_ (fun _=>?_)
theorem q5Disjoint.mono:∀ a0 k,LeO (q5Disjoint.f k a0) (q5Disjoint.f (k + 1) a0):=by
 intro a0 k
 obtain ⟨ih0,ih1⟩:=q5Disjoint.mono_l k
 unfold q5Disjoint.f
 repeat' first
   | (with_reducible exact ih0 _ _)
   | (with_reducible exact ih1 _ _ _)
   | (with_reducible exact q5Sequence.mono _ _)
   | (with_reducible exact LeO.refl _)
   | (with_reducible exact LeO.none _)
   | (with_reducible refine LeO.ite ?_ ?_)
   | (with_reducible refine LeO.bind ?_ (fun _=>?_))
   | exact ih0 _ _
   | exact ih1 _ _ _
   | exact q5Sequence.mono _ _
   | exact LeO.none _
   | refine LeO.ite ?_ ?_
   | refine LeO.bind ?_ (fun _=>?_)
set_option maxHeartbeats 8000000 in
set_option maxRecDepth 100000 in
theorem q5Disjoint.calls (k:Nat) (A0:Option Addr) (c0:Nat) (l0:List (S103)) (r:Bool) (w:World) (hr0:Kd.C k103 w A0 l0.length l0) (hc0 : l0.length≤c0) (h : q5Disjoint.f k l0=some r) :
  Calls Try.prog 57 #[.slice A0 l0.length c0] w fun e w'=>e=.returned (.bool r)∧Below w.heap.size w w':=by
 have HR0:=Z0.mk hr0
 have HC0:=Z0.mk hc0
 clear hr0 hc0
 have HB:=Z0.mk (Below.refl w.heap.size w)
 have H:((q5Sequence.f k l0).bind fun t500=>(q5Disjoint.l0 k t500 0))=some r:=h
 clear h
 replace H:=Option.bind_eq_some_iff.mp H
 obtain ⟨t500,A20,H⟩:=H
 replace H:(q5Disjoint.l0 k t500 0)=some r:=H
 have A2:=Z0.mk A20
 clear A20
 have H':=Z0.mk H
 clear H
 go_enter Try.func57,Try.ntmps57
 go_wp2_with (first|(go_at_call 55;(with_reducible refine (q5Sequence.calls k _ _ l0 t500 _ ?side1 ?side2 A2.out).mono ?_);(case side1=>repeat (first|exact HR0.out|(with_reducible refine Kd.C_alloc ?_ _)|(with_reducible refine Kd.C_drewN ?_ _)|(with_reducible refine Kd.C_drew ?_)));(case side2=>exact HC0.out);rintro e w3 ⟨v501,rfl,ho0,hb⟩;have n0_:=Z0.mk (Kd.R_lower ho0 (below_size (by repeat (first|(with_reducible first|exact HB.out|apply zbA|apply zbN|apply zb1)|exact HB.out))));have n1_:=Z0.mk (below_step (by repeat (first|(with_reducible first|exact HB.out|apply zbA|apply zbN|apply zb1)|exact HB.out)) hb);clear HB;have HO502:=n0_;have HB:=n1_;clear n0_ n1_;(try clear hb);(try clear hb2);(try clear hk);(try clear hi);(try clear ho0)))
 repeat (go_quiet (first|(go_at_call 55;(with_reducible refine (q5Sequence.calls k _ _ l0 t500 _ ?side1 ?side2 A2.out).mono ?_);(case side1=>repeat (first|exact HR0.out|(with_reducible refine Kd.C_alloc ?_ _)|(with_reducible refine Kd.C_drewN ?_ _)|(with_reducible refine Kd.C_drew ?_)));(case side2=>exact HC0.out);rintro e w3 ⟨v501,rfl,ho0,hb⟩;have n0_:=Z0.mk (Kd.R_lower ho0 (below_size (by repeat (first|(with_reducible first|exact HB.out|apply zbA|apply zbN|apply zb1)|exact HB.out))));have n1_:=Z0.mk (below_step (by repeat (first|(with_reducible first|exact HB.out|apply zbA|apply zbN|apply zb1)|exact HB.out)) hb);clear HB;have HO502:=n0_;have HB:=n1_;clear n0_ n1_;(try clear hb);(try clear hb2);(try clear hk);(try clear hi);(try clear ho0)));try go_wp2_with (first|(go_at_call 55;(with_reducible refine (q5Sequence.calls k _ _ l0 t500 _ ?side1 ?side2 A2.out).mono ?_);(case side1=>repeat (first|exact HR0.out|(with_reducible refine Kd.C_alloc ?_ _)|(with_reducible refine Kd.C_drewN ?_ _)|(with_reducible refine Kd.C_drew ?_)));(case side2=>exact HC0.out);rintro e w3 ⟨v501,rfl,ho0,hb⟩;have n0_:=Z0.mk (Kd.R_lower ho0 (below_size (by repeat (first|(with_reducible first|exact HB.out|apply zbA|apply zbN|apply zb1)|exact HB.out))));have n1_:=Z0.mk (below_step (by repeat (first|(with_reducible first|exact HB.out|apply zbA|apply zbN|apply zb1)|exact HB.out)) hb);clear HB;have HO502:=n0_;have HB:=n1_;clear n0_ n1_;(try clear hb);(try clear hb2);(try clear hk);(try clear hi);(try clear ho0))))
 go_loopg [4] k (fun kq v4 w'=>∃ (x4_1:Int),v4=.int .i64 x4_1∧Z0 (q5Disjoint.l0 kq t500 x4_1=some r)∧Z0 (kq≤k)∧Z0 (Kd.R (Kd.int .i64) 3 w' w.heap.size (fun _=>True) v501 t500)∧Z0 (Below w.heap.size w w'))
 case atStart=>exact ⟨(0),(by first|rfl|(simp;done)|(simp [*];done)),H',⟨Nat.le_refl _⟩,⟨by (with_reducible repeat (first|apply Kd.R_alloc|apply Kd.R_drewN|apply Kd.R_drew));exact HO502.out⟩,⟨by repeat (first|(with_reducible first|exact HB.out|apply zbA|apply zbN|apply zb1)|exact HB.out)⟩⟩
 case round =>
  clear H'
  try clear p2
  obtain ⟨x4_1,rfl,HA,HK1,HO_3,HB⟩:=hrel
  cases gk with
  | zero=>exact absurd HA.out (by simp [q5Disjoint.l0])
  | succ k1 =>
   have H:=HA.out
   clear HA
   simp only [q5Disjoint.l0] at H
   by_cases c4 : x4_1 < (t500.length:Int)
   ·rw [if_pos c4] at H
    have c4b0 : decide (x4_1 < (t500.length:Int))=true:=decide_eq_true c4
    clear c4
    have H':=Z0.mk H
    clear H
    obtain ⟨Ao5,co5,eo5⟩:=Kd.R_slice HO_3.out
    subst eo5
    go_wp2
    repeat (go_quiet (fail);try go_wp2)
    go_loopg [5] k1 (fun kq v5 w'=>∃ (x5_2:Int),v5=.int .i64 x5_2∧Z0 (q5Disjoint.l1 kq t500 x4_1 x5_2=some r)∧Z0 (kq≤k1)∧Z0 (Kd.R (Kd.int .i64) 3 w' w.heap.size (fun _=>True) (.slice Ao5 t500.length co5) t500)∧Z0 (Below w.heap.size w w'))
    case atStart=>exact ⟨(0),(by first|rfl|(simp;done)|(simp [*];done)),H',⟨Nat.le_refl _⟩,⟨by (with_reducible repeat (first|apply Kd.R_alloc|apply Kd.R_drewN|apply Kd.R_drew));exact HO_3.out⟩,⟨by repeat (first|(with_reducible first|exact HB.out|apply zbA|apply zbN|apply zb1)|exact HB.out)⟩⟩
    case round =>
     clear H'
     try clear p2
     try clear c4
     try clear c4b0
     try clear c5
     try clear p2
     obtain ⟨x5_2,rfl,HA,HK2,HO_3,HB⟩:=hrel
     cases gk with
     | zero=>exact absurd HA.out (by simp [q5Disjoint.l1])
     | succ k2 =>
      have H:=HA.out
      clear HA
      simp only [q5Disjoint.l1] at H
      by_cases c6 : x5_2 < x4_1
      ·rw [if_pos c6] at H
       have c6b0 : decide (x5_2 < x4_1)=true:=decide_eq_true c6
       clear c6
       by_cases c7 : 0≤x4_1
       ·rw [if_pos c7] at H
        have c7b0 : decide (0≤x4_1)=true:=decide_eq_true c7
        clear c7
        by_cases c8 : x4_1 < (t500.length:Int)
        ·rw [if_pos c8] at H
         have c8b0 : decide (x4_1 < (t500.length:Int))=true:=decide_eq_true c8
         clear c8
         by_cases c9 : 0≤x5_2
         ·rw [if_pos c9] at H
          have c9b0 : decide (0≤x5_2)=true:=decide_eq_true c9
          clear c9
          by_cases c10 : x5_2 < (t500.length:Int)
          ·rw [if_pos c10] at H
           have c10b0 : decide (x5_2 < (t500.length:Int))=true:=decide_eq_true c10
           clear c10
           by_cases c11:(rd t500 x4_1)=(rd t500 x5_2)
           ·rw [if_pos c11] at H
            have c11b0:((rd t500 x4_1) == (rd t500 x5_2))=true:=beq_iff_eq.mpr c11
            have c11b1:((rd t500 x4_1) != (rd t500 x5_2))=false:=bne_eq_false_iff_eq.mpr c11
            clear c11
            obtain rfl:=Option.some.inj H
            have p503 : 0≤(x4_1:Int):=of_decide_eq_true (by first|(with_reducible assumption)|assumption)
            have q503 : x4_1 < (t500.length:Int):=of_decide_eq_true (by first|(with_reducible assumption)|assumption)
            obtain ⟨ad503,e503,hx503_0⟩:=Kd.at_int (Kd.R_reads' HO_3.out).2.2 x4_1 p503 q503
            cases e503
            replace p503:=eq_true p503
            replace q503:=eq_true q503
            have p504 : 0≤(x5_2:Int):=of_decide_eq_true (by first|(with_reducible assumption)|assumption)
            have q504 : x5_2 < (t500.length:Int):=of_decide_eq_true (by first|(with_reducible assumption)|assumption)
            obtain ⟨ad504,e504,hx504_0⟩:=Kd.at_int (Kd.R_reads' HO_3.out).2.2 x5_2 p504 q504
            obtain rfl : ad503=ad504:=(by injection e504)
            replace p504:=eq_true p504
            replace q504:=eq_true q504
            go_wp2
            repeat (go_quiet (fail);try go_wp2)
            go_ret
            exact ⟨by first|rfl|(simp [errW_none,errW_some] <;> rfl)|(simp [*,errW_none,errW_some] <;> rfl),by repeat (first|(with_reducible first|exact HB.out|apply zbA|apply zbN|apply zb1)|exact HB.out)⟩
           rw [if_neg c11] at H
           have c11b0:((rd t500 x4_1) == (rd t500 x5_2))=false:=beq_eq_false_iff_ne.mpr c11
           have c11b1:((rd t500 x4_1) != (rd t500 x5_2))=true:=bne_iff_ne.mpr c11
           have H':=Z0.mk H
           clear H
           have p503 : 0≤(x4_1:Int):=of_decide_eq_true (by first|(with_reducible assumption)|assumption)
           have q503 : x4_1 < (t500.length:Int):=of_decide_eq_true (by first|(with_reducible assumption)|assumption)
           obtain ⟨ad503,e503,hx503_0⟩:=Kd.at_int (Kd.R_reads' HO_3.out).2.2 x4_1 p503 q503
           cases e503
           replace p503:=eq_true p503
           replace q503:=eq_true q503
           have p504 : 0≤(x5_2:Int):=of_decide_eq_true (by first|(with_reducible assumption)|assumption)
           have q504 : x5_2 < (t500.length:Int):=of_decide_eq_true (by first|(with_reducible assumption)|assumption)
           obtain ⟨ad504,e504,hx504_0⟩:=Kd.at_int (Kd.R_reads' HO_3.out).2.2 x5_2 p504 q504
           obtain rfl : ad503=ad504:=(by injection e504)
           replace p504:=eq_true p504
           replace q504:=eq_true q504
           go_wp2
           repeat (go_quiet (fail);try go_wp2)
           go_roundg k2
           case measure=>have:=HK1.out;have:=HK2.out;omega
           case rel=>exact ⟨(wrap64 (x5_2 + 1)),(by first|rfl|(simp;done)|(simp [*];done)),H',⟨by have:=HK1.out;have:=HK2.out;omega⟩,⟨by (with_reducible repeat (first|apply Kd.R_alloc|apply Kd.R_drewN|apply Kd.R_drew));exact HO_3.out⟩,⟨by repeat (first|(with_reducible first|exact HB.out|apply zbA|apply zbN|apply zb1)|exact HB.out)⟩⟩
          rw [if_neg c10] at H
          exact absurd H (by simp)
         rw [if_neg c9] at H
         exact absurd H (by simp)
        rw [if_neg c8] at H
        exact absurd H (by simp)
       rw [if_neg c7] at H
       exact absurd H (by simp)
      rw [if_neg c6] at H
      have c6b0 : decide (x5_2 < x4_1)=false:=decide_eq_false c6
      clear c6
      have H':=Z0.mk H
      clear H
      go_wp2
      repeat (go_quiet (fail);try go_wp2)
      go_roundg k2
      case measure=>have:=HK1.out;have:=HK2.out;omega
      case rel=>exact ⟨(wrap64 (x4_1 + 1)),(by first|rfl|(simp;done)|(simp [*];done)),H',⟨by have:=HK1.out;have:=HK2.out;omega⟩,⟨by (with_reducible repeat (first|apply Kd.R_alloc|apply Kd.R_drewN|apply Kd.R_drew));exact HO_3.out⟩,⟨by repeat (first|(with_reducible first|exact HB.out|apply zbA|apply zbN|apply zb1)|exact HB.out)⟩⟩
   rw [if_neg c4] at H
   have c4b0 : decide (x4_1 < (t500.length:Int))=false:=decide_eq_false c4
   clear c4
   obtain rfl:=Option.some.inj H
   obtain ⟨Ao12,co12,eo12⟩:=Kd.R_slice HO_3.out
   subst eo12
   go_wp2
   repeat (go_quiet (fail);try go_wp2)
   go_ret
   exact ⟨by first|rfl|(simp [errW_none,errW_some] <;> rfl)|(simp [*,errW_none,errW_some] <;> rfl),by repeat (first|(with_reducible first|exact HB.out|apply zbA|apply zbN|apply zb1)|exact HB.out)⟩
end Go.Proofs.Ytegefemkmdlmaaa.P
