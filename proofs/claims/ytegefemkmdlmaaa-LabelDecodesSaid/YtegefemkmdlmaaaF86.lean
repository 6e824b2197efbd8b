import Derived.Test.YtegefemkmdlmaaaF0
import Derived.Test.YtegefemkmdlmaaaQb
import Derived.Test.YtegefemkmdlmaaaF39
import Derived.Test.YtegefemkmdlmaaaF57
import Derived.Test.YtegefemkmdlmaaaF90
import Derived.Test.YtegefemkmdlmaaaF102
namespace Go.Proofs.Ytegefemkmdlmaaa.P
open Go.RowKit Go.Proofs.YtegefemkmdlmaaaW.PrintWords Go.Proofs.YtegefemkmdlmaaaW.PrintLast Go.Proofs.YtegefemkmdlmaaaW.PrintMore
attribute [local go_sem] max2_int min2_int max_two min_two max_three min_three max_four min_four
set_option linter.unusedVariables false
set_option linter.unusedSimpArgs false
mutual
def q7Valid.j0:Nat→Int→Bool→Int→Int→ByteArray→ByteArray→List (S103)→Option (Bool)
 | 0,_,_,_,_,_,_,_=>none
 | k + 1,x1,x53,x930000,x930001,x930002,x930003,x930004=>if x53=true then (some false) else (q7Valid.l0 k x1 0 x930000 x930001 x930002 x930003 x930004)
def q7Valid.l0:Nat→Int→Int→Int→Int→ByteArray→ByteArray→List (S103)→Option (Bool)
 | 0,_,_,_,_,_,_,_=>none
 | k + 1,x1,x5,x930000,x930001,x930002,x930003,x930004=>if x5 < (x930004.length:Int) then (if 0≤x5 then ((q7TableTracks.f x1).bind fun t933=>(if ((rd_T103 x930004 x5).f0) < t933 then (some false) else (if ((rd_T103 x930004 x5).f0) ≥ x1 then (some false) else (if ((rd_T103 x930004 x5).f1) < 1 then (some false) else (if ((rd_T103 x930004 x5).f1) > (wrap64 (x1 - ((rd_T103 x930004 x5).f0))) then (some false) else (q7Valid.l0 k x1 (wrap64 (x5 + 1)) x930000 x930001 x930002 x930003 x930004)))))) else (none)) else ((q5Join.f k x930004).bind fun t934=>((q5Same.f k x930004 t934).bind fun t937=>(if t937=true then ((q5Disjoint.f k x930004).bind fun t938=>(some t938)) else (some false))))
end
def q7Valid.f (k:Nat) (a0_0:Int) (a0_1:Int) (a0_2:ByteArray) (a0_3:ByteArray) (l0_4:List (S103)) (a1:Int):Option (Bool):=(q7valid.f a1).bind fun t930=>(if t930=true then (if a0_0 < 1 then (q7Valid.j0 k a1 true a0_0 a0_1 a0_2 a0_3 l0_4) else (if a0_0 > 1099511627776 then (q7Valid.j0 k a1 true a0_0 a0_1 a0_2 a0_3 l0_4) else (if a0_1 < 0 then (q7Valid.j0 k a1 true a0_0 a0_1 a0_2 a0_3 l0_4) else (if a0_1 > 1099511627776 then (q7Valid.j0 k a1 true a0_0 a0_1 a0_2 a0_3 l0_4) else (if (a0_2.size:Int) > 31 then (q7Valid.j0 k a1 true a0_0 a0_1 a0_2 a0_3 l0_4) else (if (a0_3.size:Int) > 400 then (q7Valid.j0 k a1 true a0_0 a0_1 a0_2 a0_3 l0_4) else (if (l0_4.length:Int) < 1 then (q7Valid.j0 k a1 true a0_0 a0_1 a0_2 a0_3 l0_4) else (q7Valid.j0 k a1 (decide ((l0_4.length:Int) > 16)) a0_0 a0_1 a0_2 a0_3 l0_4)))))))) else (q7Valid.j0 k a1 true a0_0 a0_1 a0_2 a0_3 l0_4))
theorem q7Valid.mono_l:∀ k,(∀ y0 y1 y2 y3 y4 y5 y6,LeO (q7Valid.j0 k y0 y1 y2 y3 y4 y5 y6) (q7Valid.j0 (k + 1) y0 y1 y2 y3 y4 y5 y6))∧(∀ y0 y1 y2 y3 y4 y5 y6,LeO (q7Valid.l0 k y0 y1 y2 y3 y4 y5 y6) (q7Valid.l0 (k + 1) y0 y1 y2 y3 y4 y5 y6))
 | 0=>⟨fun _ _ _ _ _ _ _ r h=>by simp [q7Valid.j0] at h,fun _ _ _ _ _ _ _ r h=>by simp [q7Valid.l0] at h⟩
 | k + 1=>by
  obtain ⟨ih0,ih1⟩:=q7Valid.mono_l k
  refine ⟨?_,?_⟩
  ·intro y0 y1 y2 y3 y4 y5 y6
   unfold q7Valid.j0
   repeat' first
   | (with_reducible exact ih0 _ _ _ _ _ _ _)
   | (with_reducible exact ih1 _ _ _ _ _ _ _)
   | (with_reducible exact q5Disjoint.mono _ _)
   | (with_reducible exact q5Join.mono _ _)
   | (with_reducible exact q5Same.mono _ _ _)
   | (with_reducible exact LeO.refl _)
   | (with_reducible exact LeO.none _)
   | (with_reducible refine LeO.ite ?_ ?_)
   | (with_reducible refine LeO.bind ?_ (fun _=>?_))
   | exact ih0 _ _ _ _ _ _ _
   | exact ih1 _ _ _ _ _ _ _
   | exact q5Disjoint.mono _ _
   | exact q5Join.mono _ _
   | exact q5Same.mono _ _ _
   | exact LeO.none _
   | refine LeO.ite ?_ ?_
   | refine LeO.bind ?_ (fun _=>?_)
  intro y0 y1 y2 y3 y4 y5 y6
  unfold q7Valid.l0
  repeat' first
  | (with_reducible exact ih0 _ _ _ _ _ _ _)
  | (with_reducible exact ih1 _ _ _ _ _ _ _)
  | (with_reducible exact q5Disjoint.mono _ _)
  | (with_reducible exact q5Join.mono _ _)
  | (with_reducible exact q5Same.mono _ _ _)
  | (with_reducible exact LeO.refl _)
  | (with_reducible exact LeO.none _)
  | (with_reducible refine LeO.ite ?_ ?_)
  | (with_reducible refine LeO.bind ?_ (fun _=>?_))
  | exact ih0 _ _ _ _ _ _ _
  | exact ih1 _ _ _ _ _ _ _
  | exact q5Disjoint.mono _ _
  | exact q5Join.mono _ _
  | exact q5Same.mono _ _ _
  | exact LeO.none _
  | refine LeO.ite ?_ ?_
  | refine LeO.bind ?_ (fun _=>?_)
theorem q7Valid.mono:∀ a0 a1 a2 a3 a4 a5 k,LeO (q7Valid.f k a0 a1 a2 a3 a4 a5) (q7Valid.f (k + 1) a0 a1 a2 a3 a4 a5):=by
 intro a0 a1 a2 a3 a4 a5 k
 obtain ⟨ih0,ih1⟩:=q7Valid.mono_l k
 unfold q7Valid.f
 repeat' first
   | (with_reducible exact ih0 _ _ _ _ _ _ _)
   | (with_reducible exact ih1 _ _ _ _ _ _ _)
   | (with_reducible exact q5Disjoint.mono _ _)
   | (with_reducible exact q5Join.mono _ _)
   | (with_reducible exact q5Same.mono _ _ _)
   | (with_reducible exact LeO.refl _)
   | (with_reducible exact LeO.none _)
   | (with_reducible refine LeO.ite ?_ ?_)
   | (with_reducible refine LeO.bind ?_ (fun _=>?_))
   | exact ih0 _ _ _ _ _ _ _
   | exact ih1 _ _ _ _ _ _ _
   | exact q5Disjoint.mono _ _
   | exact q5Join.mono _ _
   | exact q5Same.mono _ _ _
   | exact LeO.none _
   | refine LeO.ite ?_ ?_
   | refine LeO.bind ?_ (fun _=>?_)
def q7Valid.T7:Bool×List (List Nat×List Nat):=(true,[([],[]),([0],[0]),([],[]),([2],[2]),([1,3],[1,3]),([4,3],[4]),([5],[5]),([6,5],[5,6]),([5],[5]),([7,8,5],[5,7,8]),([5,9],[5,9]),([10,5],[10]),([11],[11]),([12,11],[11,12]),([13,11],[11,13]),([11,14],[11,14]),([15,11],[15]),([16],[16]),([17,16],[16,17]),([16],[16]),([16],[16]),([20,16],[16,20]),([19,21,16],[16,19,21]),([18,22,16],[16,18,22]),([16,23],[16,23])])
def q7Valid.B7:List Nat:=[0,1,0,4,15,31,63,127,63,511,1023,2047,4095,8191,16383,32767,65535,131071,262143,131071,131071,1179647,3801087,8388607,16777215]
theorem q7Valid.tab7 : rtab .any (opsOf Try.f86 7)=q7Valid.T7:=by kernel_rfl
theorem q7Valid.bits7 : waitsOk q7Valid.T7.2 q7Valid.B7=true:=by kernel_rfl
def q7Valid.T9:Bool×List (List Nat×List Nat):=(true,[([],[]),([0],[0]),([],[]),([2],[2]),([3],[3]),([1,4,4],[1,4]),([5,5],[5]),([6],[6]),([7,6],[6,7]),([8,6,6],[6,8]),([6,9],[6,9]),([10,9,0,1,2,3,4,5,6,7,8,9,10],[10])])
def q7Valid.B9:List Nat:=[0,1,0,4,12,31,63,127,255,511,1023,2047]
theorem q7Valid.tab9 : rtab .any (opsOf Try.f86 9)=q7Valid.T9:=by kernel_rfl
theorem q7Valid.bits9 : waitsOk q7Valid.T9.2 q7Valid.B9=true:=by kernel_rfl
set_option maxHeartbeats 8000000 in
set_option maxRecDepth 100000 in
theorem q7Valid.calls (k:Nat) (a0_0:Int) (a0_1:Int) (a0_2:ByteArray) (a0_3:ByteArray) (A0_4:Option Addr) (c0_4:Nat) (l0_4:List (S103)) (a1:Int) (r:Bool) (w:World) (hr0_4:Kd.C k103 w A0_4 l0_4.length l0_4) (hc0_4 : l0_4.length≤c0_4) (h : q7Valid.f k a0_0 a0_1 a0_2 a0_3 l0_4 a1=some r) :
  Calls Try.prog 86 #[.agg #[.int .i64 a0_0,.int .i64 a0_1,.string a0_2,.string a0_3,.slice A0_4 l0_4.length c0_4],.int .i64 a1] w fun e w'=>e=.returned (.bool r)∧Below w.heap.size w w':=by
 have hu55:=Try.underlying55
 have hu103:=Try.underlying103
 have HR0_4:=Z0.mk hr0_4
 have HC0_4:=Z0.mk hc0_4
 clear hr0_4 hc0_4
 have HB:=Z0.mk (Below.refl w.heap.size w)
 have H:((q7valid.f a1).bind fun t930=>(if t930=true then (if a0_0 < 1 then (q7Valid.j0 k a1 true a0_0 a0_1 a0_2 a0_3 l0_4) else (if a0_0 > 1099511627776 then (q7Valid.j0 k a1 true a0_0 a0_1 a0_2 a0_3 l0_4) else (if a0_1 < 0 then (q7Valid.j0 k a1 true a0_0 a0_1 a0_2 a0_3 l0_4) else (if a0_1 > 1099511627776 then (q7Valid.j0 k a1 true a0_0 a0_1 a0_2 a0_3 l0_4) else (if (a0_2.size:Int) > 31 then (q7Valid.j0 k a1 true a0_0 a0_1 a0_2 a0_3 l0_4) else (if (a0_3.size:Int) > 400 then (q7Valid.j0 k a1 true a0_0 a0_1 a0_2 a0_3 l0_4) else (if (l0_4.length:Int) < 1 then (q7Valid.j0 k a1 true a0_0 a0_1 a0_2 a0_3 l0_4) else (q7Valid.j0 k a1 (decide ((l0_4.length:Int) > 16)) a0_0 a0_1 a0_2 a0_3 l0_4)))))))) else (q7Valid.j0 k a1 true a0_0 a0_1 a0_2 a0_3 l0_4)))=some r:=h
 clear h
 have HC3:=Z0.mk H
 clear H
 go_enter Try.func86,Try.ntmps86
 go_upto_region 1 with (first|((with_reducible refine gate_dst (N:=2) rfl ?_);(try (refine gate_guard (by rfl) ?_;dsimp only));refine box_event ?hg (N:=2) ?hd (cs:=#[.int .i64 a0_0,.int .i64 a0_1,.string a0_2,.string a0_3,.slice A0_4 l0_4.length c0_4]) (t:=55) ?hr ?_;(case hd=>rfl);(case hg=>rfl);(case hr=>first|(go_simp;done)|(go_simp;rfl));intro gb929 hg w4 hbox hb;have n0_:=Z0.mk (below_step (by repeat (first|(with_reducible first|exact HB.out|apply zbA|apply zbN|apply zb1)|exact HB.out)) hb);have n1_:=Z0.mk (hbox);have n2_:=Z0.mk ((by rw [hg];exact (below_size (by repeat (first|(with_reducible first|exact HB.out|apply zbA|apply zbN|apply zb1)|exact HB.out))) : w.heap.size≤gb929));have n3_:=Z0.mk ((by rw [hg];exact (below_size (by repeat (first|(with_reducible first|exact HB.out|apply zbA|apply zbN|apply zb1)|exact HB.out))) : w.heap.size≤gb929));clear HB;have HB:=n0_;have BK929:=n1_;have GW929:=n2_;have GE929:=n3_;clear n0_ n1_ n2_ n3_;clear hb hbox hg))
 (try simp only [Act.put,List.setIfInBounds_toArray,List.set_cons_zero,List.set_cons_succ])
 go_cut [53] (fun v53 wc=>∃ (kq:Nat) (x53_2:Bool),v53=.bool x53_2∧Z0 (q7Valid.j0 kq a1 x53_2 a0_0 a0_1 a0_2 a0_3 l0_4=some r)∧Z0 (kq≤k)∧Z0 (wc.heap[gb929]?=some (.cells #[.int .i64 a0_0,.int .i64 a0_1,.string a0_2,.string a0_3,(.slice A0_4 l0_4.length c0_4)] 55 (0,0)))∧Z0 (Below w.heap.size w wc))
 case first =>
  have H:=HC3.out
  clear HC3
  replace H:=Option.bind_eq_some_iff.mp H
  obtain ⟨t930,A50,H⟩:=H
  replace H:(if t930=true then (if a0_0 < 1 then (q7Valid.j0 k a1 true a0_0 a0_1 a0_2 a0_3 l0_4) else (if a0_0 > 1099511627776 then (q7Valid.j0 k a1 true a0_0 a0_1 a0_2 a0_3 l0_4) else (if a0_1 < 0 then (q7Valid.j0 k a1 true a0_0 a0_1 a0_2 a0_3 l0_4) else (if a0_1 > 1099511627776 then (q7Valid.j0 k a1 true a0_0 a0_1 a0_2 a0_3 l0_4) else (if (a0_2.size:Int) > 31 then (q7Valid.j0 k a1 true a0_0 a0_1 a0_2 a0_3 l0_4) else (if (a0_3.size:Int) > 400 then (q7Valid.j0 k a1 true a0_0 a0_1 a0_2 a0_3 l0_4) else (if (l0_4.length:Int) < 1 then (q7Valid.j0 k a1 true a0_0 a0_1 a0_2 a0_3 l0_4) else (q7Valid.j0 k a1 (decide ((l0_4.length:Int) > 16)) a0_0 a0_1 a0_2 a0_3 l0_4)))))))) else (q7Valid.j0 k a1 true a0_0 a0_1 a0_2 a0_3 l0_4))=some r:=H
  have A5:=Z0.mk A50
  clear A50
  by_cases c6 : t930=true
  ·subst c6
   have H1:(if a0_0 < 1 then (q7Valid.j0 k a1 true a0_0 a0_1 a0_2 a0_3 l0_4) else (if a0_0 > 1099511627776 then (q7Valid.j0 k a1 true a0_0 a0_1 a0_2 a0_3 l0_4) else (if a0_1 < 0 then (q7Valid.j0 k a1 true a0_0 a0_1 a0_2 a0_3 l0_4) else (if a0_1 > 1099511627776 then (q7Valid.j0 k a1 true a0_0 a0_1 a0_2 a0_3 l0_4) else (if (a0_2.size:Int) > 31 then (q7Valid.j0 k a1 true a0_0 a0_1 a0_2 a0_3 l0_4) else (if (a0_3.size:Int) > 400 then (q7Valid.j0 k a1 true a0_0 a0_1 a0_2 a0_3 l0_4) else (if (l0_4.length:Int) < 1 then (q7Valid.j0 k a1 true a0_0 a0_1 a0_2 a0_3 l0_4) else (q7Valid.j0 k a1 (decide ((l0_4.length:Int) > 16)) a0_0 a0_1 a0_2 a0_3 l0_4))))))))=some r:=by rw [if_pos rfl] at H;exact H
   clear H
   have H:=H1
   clear H1
   by_cases c7 : a0_0 < 1
   ·rw [if_pos c7] at H
    have c7b0 : decide (a0_0 < 1)=true:=decide_eq_true c7
    clear c7
    (first|rw [c7b0]|(simp only [i64_w,i32_w];rw [c7b0])|skip)
    have H':=Z0.mk H
    clear H
    go_wp2_with (first|((with_reducible refine gate_callee (f:=102) rfl ?_);refine goesL_ (some 8) rfl rfl Try.func102 (by kernel_rfl) rfl #[.int .i64 a1] rfl (by (try simp only [List.map_toArray,List.map_cons,List.map_nil]);first|done|rfl|(simp only [List.length_drop,List.length_take];rfl)) ?_;(with_reducible refine (q7valid.calls a1 true _ A5.out).mono ?_);rintro e w' ⟨rfl,⟨nd,rfl⟩⟩;refine ⟨_,rfl,?_⟩;have hcz8_0 : w4.cell? ⟨gb929,0,none⟩=some (.int .i64 a0_0):=(zkC BK929.out 0).trans rfl;have hcz8_1 : w4.cell? ⟨gb929,1,none⟩=some (.int .i64 a0_1):=(zkC BK929.out 1).trans rfl;have hcz8_2 : w4.cell? ⟨gb929,2,none⟩=some (.string a0_2):=(zkC BK929.out 2).trans rfl;have hcz8_3 : w4.cell? ⟨gb929,3,none⟩=some (.string a0_3):=(zkC BK929.out 3).trans rfl;have hcz8_4 : w4.cell? ⟨gb929,4,none⟩=some (.slice A0_4 l0_4.length c0_4):=(zkC BK929.out 4).trans rfl;have hfz8_0:=zkF BK929.out 0;have hfz8_1:=zkF BK929.out 1;have hfz8_2:=zkF BK929.out 2;have hfz8_3:=zkF BK929.out 3;have hfz8_4:=zkF BK929.out 4))
    go_meet
    case rel=>exact ⟨_,(true),(by first|rfl|(simp;done)|(simp [*];done)),H',⟨by first|omega|exact Nat.le_refl _⟩,⟨by (with_reducible repeat (first|refine zkN ?_ _|refine zkD ?_|refine zkA ?_ _));exact BK929.out⟩,⟨by repeat (first|(with_reducible first|exact HB.out|apply zbA|apply zbN|apply zb1|refine zbS ?_ GE929.out)|exact HB.out)⟩⟩
   rw [if_neg c7] at H
   have c7b0 : decide (a0_0 < 1)=false:=decide_eq_false c7
   clear c7
   (first|rw [c7b0]|(simp only [i64_w,i32_w];rw [c7b0])|skip)
   by_cases c9 : a0_0 > 1099511627776
   ·rw [if_pos c9] at H
    have c9b0 : decide (1099511627776 < a0_0)=true:=decide_eq_true c9
    clear c9
    have H':=Z0.mk H
    clear H
    go_wp2_with (first|((with_reducible refine gate_callee (f:=102) rfl ?_);refine goesL_ (some 8) rfl rfl Try.func102 (by kernel_rfl) rfl #[.int .i64 a1] rfl (by (try simp only [List.map_toArray,List.map_cons,List.map_nil]);first|done|rfl|(simp only [List.length_drop,List.length_take];rfl)) ?_;(with_reducible refine (q7valid.calls a1 true _ A5.out).mono ?_);rintro e w' ⟨rfl,⟨nd,rfl⟩⟩;refine ⟨_,rfl,?_⟩;have hcz10_0 : w4.cell? ⟨gb929,0,none⟩=some (.int .i64 a0_0):=(zkC BK929.out 0).trans rfl;have hcz10_1 : w4.cell? ⟨gb929,1,none⟩=some (.int .i64 a0_1):=(zkC BK929.out 1).trans rfl;have hcz10_2 : w4.cell? ⟨gb929,2,none⟩=some (.string a0_2):=(zkC BK929.out 2).trans rfl;have hcz10_3 : w4.cell? ⟨gb929,3,none⟩=some (.string a0_3):=(zkC BK929.out 3).trans rfl;have hcz10_4 : w4.cell? ⟨gb929,4,none⟩=some (.slice A0_4 l0_4.length c0_4):=(zkC BK929.out 4).trans rfl;have hfz10_0:=zkF BK929.out 0;have hfz10_1:=zkF BK929.out 1;have hfz10_2:=zkF BK929.out 2;have hfz10_3:=zkF BK929.out 3;have hfz10_4:=zkF BK929.out 4))
    go_meet
    case rel=>exact ⟨_,(true),(by first|rfl|(simp;done)|(simp [*];done)),H',⟨by first|omega|exact Nat.le_refl _⟩,⟨by (with_reducible repeat (first|refine zkN ?_ _|refine zkD ?_|refine zkA ?_ _));exact BK929.out⟩,⟨by repeat (first|(with_reducible first|exact HB.out|apply zbA|apply zbN|apply zb1|refine zbS ?_ GE929.out)|exact HB.out)⟩⟩
   rw [if_neg c9] at H
   have c9b0 : decide (1099511627776 < a0_0)=false:=decide_eq_false c9
   clear c9
   by_cases c11 : a0_1 < 0
   ·rw [if_pos c11] at H
    have c11b0 : decide (a0_1 < 0)=true:=decide_eq_true c11
    clear c11
    have H':=Z0.mk H
    clear H
    go_wp2_with (first|((with_reducible refine gate_callee (f:=102) rfl ?_);refine goesL_ (some 8) rfl rfl Try.func102 (by kernel_rfl) rfl #[.int .i64 a1] rfl (by (try simp only [List.map_toArray,List.map_cons,List.map_nil]);first|done|rfl|(simp only [List.length_drop,List.length_take];rfl)) ?_;(with_reducible refine (q7valid.calls a1 true _ A5.out).mono ?_);rintro e w' ⟨rfl,⟨nd,rfl⟩⟩;refine ⟨_,rfl,?_⟩;have hcz12_0 : w4.cell? ⟨gb929,0,none⟩=some (.int .i64 a0_0):=(zkC BK929.out 0).trans rfl;have hcz12_1 : w4.cell? ⟨gb929,1,none⟩=some (.int .i64 a0_1):=(zkC BK929.out 1).trans rfl;have hcz12_2 : w4.cell? ⟨gb929,2,none⟩=some (.string a0_2):=(zkC BK929.out 2).trans rfl;have hcz12_3 : w4.cell? ⟨gb929,3,none⟩=some (.string a0_3):=(zkC BK929.out 3).trans rfl;have hcz12_4 : w4.cell? ⟨gb929,4,none⟩=some (.slice A0_4 l0_4.length c0_4):=(zkC BK929.out 4).trans rfl;have hfz12_0:=zkF BK929.out 0;have hfz12_1:=zkF BK929.out 1;have hfz12_2:=zkF BK929.out 2;have hfz12_3:=zkF BK929.out 3;have hfz12_4:=zkF BK929.out 4))
    go_meet
    case rel=>exact ⟨_,(true),(by first|rfl|(simp;done)|(simp [*];done)),H',⟨by first|omega|exact Nat.le_refl _⟩,⟨by (with_reducible repeat (first|refine zkN ?_ _|refine zkD ?_|refine zkA ?_ _));exact BK929.out⟩,⟨by repeat (first|(with_reducible first|exact HB.out|apply zbA|apply zbN|apply zb1|refine zbS ?_ GE929.out)|exact HB.out)⟩⟩
   rw [if_neg c11] at H
   have c11b0 : decide (a0_1 < 0)=false:=decide_eq_false c11
   clear c11
   by_cases c13 : a0_1 > 1099511627776
   ·rw [if_pos c13] at H
    have c13b0 : decide (1099511627776 < a0_1)=true:=decide_eq_true c13
    clear c13
    have H':=Z0.mk H
    clear H
    go_wp2_with (first|((with_reducible refine gate_callee (f:=102) rfl ?_);refine goesL_ (some 8) rfl rfl Try.func102 (by kernel_rfl) rfl #[.int .i64 a1] rfl (by (try simp only [List.map_toArray,List.map_cons,List.map_nil]);first|done|rfl|(simp only [List.length_drop,List.length_take];rfl)) ?_;(with_reducible refine (q7valid.calls a1 true _ A5.out).mono ?_);rintro e w' ⟨rfl,⟨nd,rfl⟩⟩;refine ⟨_,rfl,?_⟩;have hcz14_0 : w4.cell? ⟨gb929,0,none⟩=some (.int .i64 a0_0):=(zkC BK929.out 0).trans rfl;have hcz14_1 : w4.cell? ⟨gb929,1,none⟩=some (.int .i64 a0_1):=(zkC BK929.out 1).trans rfl;have hcz14_2 : w4.cell? ⟨gb929,2,none⟩=some (.string a0_2):=(zkC BK929.out 2).trans rfl;have hcz14_3 : w4.cell? ⟨gb929,3,none⟩=some (.string a0_3):=(zkC BK929.out 3).trans rfl;have hcz14_4 : w4.cell? ⟨gb929,4,none⟩=some (.slice A0_4 l0_4.length c0_4):=(zkC BK929.out 4).trans rfl;have hfz14_0:=zkF BK929.out 0;have hfz14_1:=zkF BK929.out 1;have hfz14_2:=zkF BK929.out 2;have hfz14_3:=zkF BK929.out 3;have hfz14_4:=zkF BK929.out 4))
    go_meet
    case rel=>exact ⟨_,(true),(by first|rfl|(simp;done)|(simp [*];done)),H',⟨by first|omega|exact Nat.le_refl _⟩,⟨by (with_reducible repeat (first|refine zkN ?_ _|refine zkD ?_|refine zkA ?_ _));exact BK929.out⟩,⟨by repeat (first|(with_reducible first|exact HB.out|apply zbA|apply zbN|apply zb1|refine zbS ?_ GE929.out)|exact HB.out)⟩⟩
   rw [if_neg c13] at H
   have c13b0 : decide (1099511627776 < a0_1)=false:=decide_eq_false c13
   clear c13
   by_cases c15:(a0_2.size:Int) > 31
   ·rw [if_pos c15] at H
    have c15b0 : decide (31 < (a0_2.size:Int))=true:=decide_eq_true c15
    have c15b1 : decide (31 < a0_2.size)=true:=decide_eq_true (by omega)
    clear c15
    have H':=Z0.mk H
    clear H
    go_wp2_with (first|((with_reducible refine gate_callee (f:=102) rfl ?_);refine goesL_ (some 8) rfl rfl Try.func102 (by kernel_rfl) rfl #[.int .i64 a1] rfl (by (try simp only [List.map_toArray,List.map_cons,List.map_nil]);first|done|rfl|(simp only [List.length_drop,List.length_take];rfl)) ?_;(with_reducible refine (q7valid.calls a1 true _ A5.out).mono ?_);rintro e w' ⟨rfl,⟨nd,rfl⟩⟩;refine ⟨_,rfl,?_⟩;have hcz16_0 : w4.cell? ⟨gb929,0,none⟩=some (.int .i64 a0_0):=(zkC BK929.out 0).trans rfl;have hcz16_1 : w4.cell? ⟨gb929,1,none⟩=some (.int .i64 a0_1):=(zkC BK929.out 1).trans rfl;have hcz16_2 : w4.cell? ⟨gb929,2,none⟩=some (.string a0_2):=(zkC BK929.out 2).trans rfl;have hcz16_3 : w4.cell? ⟨gb929,3,none⟩=some (.string a0_3):=(zkC BK929.out 3).trans rfl;have hcz16_4 : w4.cell? ⟨gb929,4,none⟩=some (.slice A0_4 l0_4.length c0_4):=(zkC BK929.out 4).trans rfl;have hfz16_0:=zkF BK929.out 0;have hfz16_1:=zkF BK929.out 1;have hfz16_2:=zkF BK929.out 2;have hfz16_3:=zkF BK929.out 3;have hfz16_4:=zkF BK929.out 4))
    go_meet
    case rel=>exact ⟨_,(true),(by first|rfl|(simp;done)|(simp [*];done)),H',⟨by first|omega|exact Nat.le_refl _⟩,⟨by (with_reducible repeat (first|refine zkN ?_ _|refine zkD ?_|refine zkA ?_ _));exact BK929.out⟩,⟨by repeat (first|(with_reducible first|exact HB.out|apply zbA|apply zbN|apply zb1|refine zbS ?_ GE929.out)|exact HB.out)⟩⟩
   rw [if_neg c15] at H
   have c15b0 : decide (31 < (a0_2.size:Int))=false:=decide_eq_false c15
   have c15b1 : decide (31 < a0_2.size)=false:=decide_eq_false (by omega)
   clear c15
   by_cases c17:(a0_3.size:Int) > 400
   ·rw [if_pos c17] at H
    have c17b0 : decide (400 < (a0_3.size:Int))=true:=decide_eq_true c17
    have c17b1 : decide (400 < a0_3.size)=true:=decide_eq_true (by omega)
    clear c17
    have H':=Z0.mk H
    clear H
    go_wp2_with (first|((with_reducible refine gate_callee (f:=102) rfl ?_);refine goesL_ (some 8) rfl rfl Try.func102 (by kernel_rfl) rfl #[.int .i64 a1] rfl (by (try simp only [List.map_toArray,List.map_cons,List.map_nil]);first|done|rfl|(simp only [List.length_drop,List.length_take];rfl)) ?_;(with_reducible refine (q7valid.calls a1 true _ A5.out).mono ?_);rintro e w' ⟨rfl,⟨nd,rfl⟩⟩;refine ⟨_,rfl,?_⟩;have hcz18_0 : w4.cell? ⟨gb929,0,none⟩=some (.int .i64 a0_0):=(zkC BK929.out 0).trans rfl;have hcz18_1 : w4.cell? ⟨gb929,1,none⟩=some (.int .i64 a0_1):=(zkC BK929.out 1).trans rfl;have hcz18_2 : w4.cell? ⟨gb929,2,none⟩=some (.string a0_2):=(zkC BK929.out 2).trans rfl;have hcz18_3 : w4.cell? ⟨gb929,3,none⟩=some (.string a0_3):=(zkC BK929.out 3).trans rfl;have hcz18_4 : w4.cell? ⟨gb929,4,none⟩=some (.slice A0_4 l0_4.length c0_4):=(zkC BK929.out 4).trans rfl;have hfz18_0:=zkF BK929.out 0;have hfz18_1:=zkF BK929.out 1;have hfz18_2:=zkF BK929.out 2;have hfz18_3:=zkF BK929.out 3;have hfz18_4:=zkF BK929.out 4))
    go_meet
    case rel=>exact ⟨_,(true),(by first|rfl|(simp;done)|(simp [*];done)),H',⟨by first|omega|exact Nat.le_refl _⟩,⟨by (with_reducible repeat (first|refine zkN ?_ _|refine zkD ?_|refine zkA ?_ _));exact BK929.out⟩,⟨by repeat (first|(with_reducible first|exact HB.out|apply zbA|apply zbN|apply zb1|refine zbS ?_ GE929.out)|exact HB.out)⟩⟩
   rw [if_neg c17] at H
   have c17b0 : decide (400 < (a0_3.size:Int))=false:=decide_eq_false c17
   have c17b1 : decide (400 < a0_3.size)=false:=decide_eq_false (by omega)
   clear c17
   by_cases c19:(l0_4.length:Int) < 1
   ·rw [if_pos c19] at H
    have c19b0 : decide ((l0_4.length:Int) < 1)=true:=decide_eq_true c19
    have c19b1 : decide (l0_4.length < 1)=true:=decide_eq_true (by omega)
    clear c19
    have H':=Z0.mk H
    clear H
    go_wp2_with (first|((with_reducible refine gate_callee (f:=102) rfl ?_);refine goesL_ (some 8) rfl rfl Try.func102 (by kernel_rfl) rfl #[.int .i64 a1] rfl (by (try simp only [List.map_toArray,List.map_cons,List.map_nil]);first|done|rfl|(simp only [List.length_drop,List.length_take];rfl)) ?_;(with_reducible refine (q7valid.calls a1 true _ A5.out).mono ?_);rintro e w' ⟨rfl,⟨nd,rfl⟩⟩;refine ⟨_,rfl,?_⟩;have hcz20_0 : w4.cell? ⟨gb929,0,none⟩=some (.int .i64 a0_0):=(zkC BK929.out 0).trans rfl;have hcz20_1 : w4.cell? ⟨gb929,1,none⟩=some (.int .i64 a0_1):=(zkC BK929.out 1).trans rfl;have hcz20_2 : w4.cell? ⟨gb929,2,none⟩=some (.string a0_2):=(zkC BK929.out 2).trans rfl;have hcz20_3 : w4.cell? ⟨gb929,3,none⟩=some (.string a0_3):=(zkC BK929.out 3).trans rfl;have hcz20_4 : w4.cell? ⟨gb929,4,none⟩=some (.slice A0_4 l0_4.length c0_4):=(zkC BK929.out 4).trans rfl;have hfz20_0:=zkF BK929.out 0;have hfz20_1:=zkF BK929.out 1;have hfz20_2:=zkF BK929.out 2;have hfz20_3:=zkF BK929.out 3;have hfz20_4:=zkF BK929.out 4))
    go_meet
    case rel=>exact ⟨_,(true),(by first|rfl|(simp;done)|(simp [*];done)),H',⟨by first|omega|exact Nat.le_refl _⟩,⟨by (with_reducible repeat (first|refine zkN ?_ _|refine zkD ?_|refine zkA ?_ _));exact BK929.out⟩,⟨by repeat (first|(with_reducible first|exact HB.out|apply zbA|apply zbN|apply zb1|refine zbS ?_ GE929.out)|exact HB.out)⟩⟩
   rw [if_neg c19] at H
   have c19b0 : decide ((l0_4.length:Int) < 1)=false:=decide_eq_false c19
   have c19b1 : decide (l0_4.length < 1)=false:=decide_eq_false (by omega)
   clear c19
   have H':=Z0.mk H
   clear H
   go_wp2_with (first|((with_reducible refine gate_callee (f:=102) rfl ?_);refine goesL_ (some 8) rfl rfl Try.func102 (by kernel_rfl) rfl #[.int .i64 a1] rfl (by (try simp only [List.map_toArray,List.map_cons,List.map_nil]);first|done|rfl|(simp only [List.length_drop,List.length_take];rfl)) ?_;(with_reducible refine (q7valid.calls a1 true _ A5.out).mono ?_);rintro e w' ⟨rfl,⟨nd,rfl⟩⟩;refine ⟨_,rfl,?_⟩;have hcz21_0 : w4.cell? ⟨gb929,0,none⟩=some (.int .i64 a0_0):=(zkC BK929.out 0).trans rfl;have hcz21_1 : w4.cell? ⟨gb929,1,none⟩=some (.int .i64 a0_1):=(zkC BK929.out 1).trans rfl;have hcz21_2 : w4.cell? ⟨gb929,2,none⟩=some (.string a0_2):=(zkC BK929.out 2).trans rfl;have hcz21_3 : w4.cell? ⟨gb929,3,none⟩=some (.string a0_3):=(zkC BK929.out 3).trans rfl;have hcz21_4 : w4.cell? ⟨gb929,4,none⟩=some (.slice A0_4 l0_4.length c0_4):=(zkC BK929.out 4).trans rfl;have hfz21_0:=zkF BK929.out 0;have hfz21_1:=zkF BK929.out 1;have hfz21_2:=zkF BK929.out 2;have hfz21_3:=zkF BK929.out 3;have hfz21_4:=zkF BK929.out 4))
   go_meet
   case rel=>exact ⟨_,(decide ((l0_4.length:Int) > 16)),(by first|rfl|(simp;done)|(simp [*];done)),H',⟨by first|omega|exact Nat.le_refl _⟩,⟨by (with_reducible repeat (first|refine zkN ?_ _|refine zkD ?_|refine zkA ?_ _));exact BK929.out⟩,⟨by repeat (first|(with_reducible first|exact HB.out|apply zbA|apply zbN|apply zb1|refine zbS ?_ GE929.out)|exact HB.out)⟩⟩
  replace c6:=Bool.eq_false_iff.mpr c6
  subst c6
  have H1:(q7Valid.j0 k a1 true a0_0 a0_1 a0_2 a0_3 l0_4)=some r:=by rw [if_neg (show ¬ (false=true) by decide)] at H;exact H
  clear H
  have H:=H1
  clear H1
  have H':=Z0.mk H
  clear H
  go_wp2_with (first|((with_reducible refine gate_callee (f:=102) rfl ?_);refine goesL_ (some 8) rfl rfl Try.func102 (by kernel_rfl) rfl #[.int .i64 a1] rfl (by (try simp only [List.map_toArray,List.map_cons,List.map_nil]);first|done|rfl|(simp only [List.length_drop,List.length_take];rfl)) ?_;(with_reducible refine (q7valid.calls a1 false _ A5.out).mono ?_);rintro e w' ⟨rfl,⟨nd,rfl⟩⟩;refine ⟨_,rfl,?_⟩))
  go_meet
  case rel=>exact ⟨_,(true),(by first|rfl|(simp;done)|(simp [*];done)),H',⟨by first|omega|exact Nat.le_refl _⟩,⟨by (with_reducible repeat (first|refine zkN ?_ _|refine zkD ?_|refine zkA ?_ _));exact BK929.out⟩,⟨by repeat (first|(with_reducible first|exact HB.out|apply zbA|apply zbN|apply zb1|refine zbS ?_ GE929.out)|exact HB.out)⟩⟩
 case rest =>
  clear HC3
  try clear c1
  try clear p2
  try clear c6
  try clear c7
  try clear c7b0
  try clear c8
  try clear c9
  try clear c9b0
  try clear c10
  try clear c11
  try clear c11b0
  try clear c13
  try clear c13b0
  try clear c15
  try clear c15b0
  try clear c15b1
  try clear c17
  try clear c17b0
  try clear c17b1
  try clear c19
  try clear c19b0
  try clear c19b1
  try clear hcz10_0
  try clear hcz10_1
  try clear hcz10_2
  try clear hcz10_3
  try clear hcz10_4
  try clear hcz12_0
  try clear hcz12_1
  try clear hcz12_2
  try clear hcz12_3
  try clear hcz12_4
  try clear hcz14_0
  try clear hcz14_1
  try clear hcz14_2
  try clear hcz14_3
  try clear hcz14_4
  try clear hcz16_0
  try clear hcz16_1
  try clear hcz16_2
  try clear hcz16_3
  try clear hcz16_4
  try clear hcz18_0
  try clear hcz18_1
  try clear hcz18_2
  try clear hcz18_3
  try clear hcz18_4
  try clear hcz20_0
  try clear hcz20_1
  try clear hcz20_2
  try clear hcz20_3
  try clear hcz20_4
  try clear hcz21_0
  try clear hcz21_1
  try clear hcz21_2
  try clear hcz21_3
  try clear hcz21_4
  try clear hcz8_0
  try clear hcz8_1
  try clear hcz8_2
  try clear hcz8_3
  try clear hcz8_4
  try clear hfz10_0
  try clear hfz10_1
  try clear hfz10_2
  try clear hfz10_3
  try clear hfz10_4
  try clear hfz12_0
  try clear hfz12_1
  try clear hfz12_2
  try clear hfz12_3
  try clear hfz12_4
  try clear hfz14_0
  try clear hfz14_1
  try clear hfz14_2
  try clear hfz14_3
  try clear hfz14_4
  try clear hfz16_0
  try clear hfz16_1
  try clear hfz16_2
  try clear hfz16_3
  try clear hfz16_4
  try clear hfz18_0
  try clear hfz18_1
  try clear hfz18_2
  try clear hfz18_3
  try clear hfz18_4
  try clear hfz20_0
  try clear hfz20_1
  try clear hfz20_2
  try clear hfz20_3
  try clear hfz20_4
  try clear hfz21_0
  try clear hfz21_1
  try clear hfz21_2
  try clear hfz21_3
  try clear hfz21_4
  try clear hfz8_0
  try clear hfz8_1
  try clear hfz8_2
  try clear hfz8_3
  try clear hfz8_4
  obtain ⟨kq,x53_2,rfl,HA,HJ2,BK929,HB⟩:=hcut
  cases kq with
  | zero=>exact absurd HA.out (by simp [q7Valid.j0])
  | succ kj2 =>
   have H:=HA.out
   clear HA
   simp only [q7Valid.j0] at H
   by_cases c22 : x53_2=true
   ·subst c22
    have H1:(some false)=some r:=by rw [if_pos rfl] at H;exact H
    clear H
    have H:=H1
    clear H1
    obtain rfl:=Option.some.inj H
    go_wp2
    go_ret
    exact ⟨by first|rfl|(simp [errW_none,errW_some] <;> rfl)|(simp [*,errW_none,errW_some] <;> rfl),by repeat (first|(with_reducible first|exact HB.out|apply zbA|apply zbN|apply zb1|refine zbS ?_ GE929.out)|exact HB.out)⟩
   replace c22:=Bool.eq_false_iff.mpr c22
   subst c22
   have H1:(q7Valid.l0 kj2 a1 0 a0_0 a0_1 a0_2 a0_3 l0_4)=some r:=by rw [if_neg (show ¬ (false=true) by decide)] at H;exact H
   clear H
   have H:=H1
   clear H1
   have H':=Z0.mk H
   clear H
   go_wp2
   go_loopg [5] kj2 (fun kq v5 w'=>∃ (x5_2:Int),v5=.int .i64 x5_2∧Z0 (q7Valid.l0 kq a1 x5_2 a0_0 a0_1 a0_2 a0_3 l0_4=some r)∧Z0 (kq≤kj2)∧Z0 (w'.heap[gb929]?=some (.cells #[.int .i64 a0_0,.int .i64 a0_1,.string a0_2,.string a0_3,(.slice A0_4 l0_4.length c0_4)] 55 (0,0)))∧Z0 (Below w.heap.size w w'))
   case atStart=>exact ⟨(0),(by first|rfl|(simp;done)|(simp [*];done)),H',⟨Nat.le_refl _⟩,⟨by (with_reducible repeat (first|refine zkN ?_ _|refine zkD ?_|refine zkA ?_ _));exact BK929.out⟩,⟨by repeat (first|(with_reducible first|exact HB.out|apply zbA|apply zbN|apply zb1|refine zbS ?_ GE929.out)|exact HB.out)⟩⟩
   case round =>
    clear H'
    try clear c1
    try clear c2
    try clear p2
    try clear c6
    try clear c7
    try clear c7b0
    try clear c8
    try clear c9
    try clear c9b0
    try clear c10
    try clear c11
    try clear c11b0
    try clear c13
    try clear c13b0
    try clear c15
    try clear c15b0
    try clear c15b1
    try clear c17
    try clear c17b0
    try clear c17b1
    try clear c19
    try clear c19b0
    try clear c19b1
    try clear c22
    try clear hcz10_0
    try clear hcz10_1
    try clear hcz10_2
    try clear hcz10_3
    try clear hcz10_4
    try clear hcz12_0
    try clear hcz12_1
    try clear hcz12_2
    try clear hcz12_3
    try clear hcz12_4
    try clear hcz14_0
    try clear hcz14_1
    try clear hcz14_2
    try clear hcz14_3
    try clear hcz14_4
    try clear hcz16_0
    try clear hcz16_1
    try clear hcz16_2
    try clear hcz16_3
    try clear hcz16_4
    try clear hcz18_0
    try clear hcz18_1
    try clear hcz18_2
    try clear hcz18_3
    try clear hcz18_4
    try clear hcz20_0
    try clear hcz20_1
    try clear hcz20_2
    try clear hcz20_3
    try clear hcz20_4
    try clear hcz21_0
    try clear hcz21_1
    try clear hcz21_2
    try clear hcz21_3
    try clear hcz21_4
    try clear hcz8_0
    try clear hcz8_1
    try clear hcz8_2
    try clear hcz8_3
    try clear hcz8_4
    try clear hfz10_0
    try clear hfz10_1
    try clear hfz10_2
    try clear hfz10_3
    try clear hfz10_4
    try clear hfz12_0
    try clear hfz12_1
    try clear hfz12_2
    try clear hfz12_3
    try clear hfz12_4
    try clear hfz14_0
    try clear hfz14_1
    try clear hfz14_2
    try clear hfz14_3
    try clear hfz14_4
    try clear hfz16_0
    try clear hfz16_1
    try clear hfz16_2
    try clear hfz16_3
    try clear hfz16_4
    try clear hfz18_0
    try clear hfz18_1
    try clear hfz18_2
    try clear hfz18_3
    try clear hfz18_4
    try clear hfz20_0
    try clear hfz20_1
    try clear hfz20_2
    try clear hfz20_3
    try clear hfz20_4
    try clear hfz21_0
    try clear hfz21_1
    try clear hfz21_2
    try clear hfz21_3
    try clear hfz21_4
    try clear hfz8_0
    try clear hfz8_1
    try clear hfz8_2
    try clear hfz8_3
    try clear hfz8_4
    try clear p2
    obtain ⟨x5_2,rfl,HA,HK2,BK929,HB⟩:=hrel
    cases gk with
    | zero=>exact absurd HA.out (by simp [q7Valid.l0])
    | succ k2 =>
     have H:=HA.out
     clear HA
     simp only [q7Valid.l0] at H
     by_cases c23 : x5_2 < (l0_4.length:Int)
     ·rw [if_pos c23] at H
      have c23b0 : decide (x5_2 < (l0_4.length:Int))=true:=decide_eq_true c23
      clear c23
      by_cases c24 : 0≤x5_2
      ·rw [if_pos c24] at H
       have c24b0 : decide (0≤x5_2)=true:=decide_eq_true c24
       clear c24
       replace H:=Option.bind_eq_some_iff.mp H
       obtain ⟨t933,A250,H⟩:=H
       replace H:(if ((rd_T103 l0_4 x5_2).f0) < t933 then (some false) else (if ((rd_T103 l0_4 x5_2).f0) ≥ a1 then (some false) else (if ((rd_T103 l0_4 x5_2).f1) < 1 then (some false) else (if ((rd_T103 l0_4 x5_2).f1) > (wrap64 (a1 - ((rd_T103 l0_4 x5_2).f0))) then (some false) else (q7Valid.l0 k2 a1 (wrap64 (x5_2 + 1)) a0_0 a0_1 a0_2 a0_3 l0_4)))))=some r:=H
       have A25:=Z0.mk A250
       clear A250
       by_cases c26:((rd_T103 l0_4 x5_2).f0) < t933
       ·rw [if_pos c26] at H
        have c26b0 : decide (((rd_T103 l0_4 x5_2).f0) < t933)=true:=decide_eq_true c26
        clear c26
        obtain rfl:=Option.some.inj H
        have hcz27_0 : wr.cell? ⟨gb929,0,none⟩=some (.int .i64 a0_0):=(zkC BK929.out 0).trans rfl
        have hcz27_1 : wr.cell? ⟨gb929,1,none⟩=some (.int .i64 a0_1):=(zkC BK929.out 1).trans rfl
        have hcz27_2 : wr.cell? ⟨gb929,2,none⟩=some (.string a0_2):=(zkC BK929.out 2).trans rfl
        have hcz27_3 : wr.cell? ⟨gb929,3,none⟩=some (.string a0_3):=(zkC BK929.out 3).trans rfl
        have hcz27_4 : wr.cell? ⟨gb929,4,none⟩=some (.slice A0_4 l0_4.length c0_4):=(zkC BK929.out 4).trans rfl
        have hfz27_0:=zkF BK929.out 0
        have hfz27_1:=zkF BK929.out 1
        have hfz27_2:=zkF BK929.out 2
        have hfz27_3:=zkF BK929.out 3
        have hfz27_4:=zkF BK929.out 4
        have p931 : 0≤(x5_2:Int):=of_decide_eq_true (by first|(with_reducible assumption)|assumption)
        have q931 : x5_2 < (l0_4.length:Int):=of_decide_eq_true (by first|(with_reducible assumption)|assumption)
        obtain ⟨ad931,e931,hx931_0,hx931_1⟩:=at_T103 HR0_4.out x5_2 p931 q931
        cases e931
        replace hx931_0:=(HB.out.cell (World.block_lt_of_cell? w _ hx931_0)).trans hx931_0
        replace hx931_1:=(HB.out.cell (World.block_lt_of_cell? w _ hx931_1)).trans hx931_1
        replace p931:=eq_true p931
        replace q931:=eq_true q931
        try go_wp2_with (first|((with_reducible refine gate_dst (N:=6) rfl ?_);(try (refine gate_guard (by rfl) ?_;dsimp only));refine box_event ?hg (N:=6) ?hd (cs:=#[.int .i64 0,.int .i64 0]) (t:=103) ?hr ?_;(case hd=>rfl);(case hg=>rfl);(case hr=>first|(go_simp;done)|(go_simp;rfl));intro gb932 hg w28 hbox hb;have n0_:=Z0.mk (blk_below (g:=gb929) (o:=.cells #[.int .i64 a0_0,.int .i64 a0_1,.string a0_2,.string a0_3,.slice (some ad931) l0_4.length c0_4] 55 (0,0)) (by (with_reducible repeat (first|refine zkN ?_ _|refine zkD ?_|refine zkA ?_ _));exact BK929.out) hb);have n1_:=Z0.mk (below_step (by repeat (first|(with_reducible first|exact HB.out|apply zbA|apply zbN|apply zb1|refine zbS ?_ GE929.out)|exact HB.out)) hb);have n2_:=Z0.mk (hbox);have n3_:=Z0.mk ((by rw [hg];exact (below_size (by repeat (first|(with_reducible first|exact HB.out|apply zbA|apply zbN|apply zb1|refine zbS ?_ GE929.out)|exact HB.out))) : w.heap.size≤gb932));have n4_:=Z0.mk ((by rw [hg];exact (below_size (by repeat (first|(with_reducible first|exact HB.out|apply zbA|apply zbN|apply zb1|refine zbS ?_ GE929.out)|exact HB.out))) : w.heap.size≤gb932));have n5_:=Z0.mk ((by rw [hg];exact Nat.ne_of_lt (blk_lt (g:=gb929) (o:=.cells #[.int .i64 a0_0,.int .i64 a0_1,.string a0_2,.string a0_3,.slice (some ad931) l0_4.length c0_4] 55 (0,0)) (by (with_reducible repeat (first|refine zkN ?_ _|refine zkD ?_|refine zkA ?_ _));exact BK929.out)) : gb929 ≠ gb932));have n6_:=Z0.mk ((by rw [hg];exact Nat.ne_of_gt (blk_lt (g:=gb929) (o:=.cells #[.int .i64 a0_0,.int .i64 a0_1,.string a0_2,.string a0_3,.slice (some ad931) l0_4.length c0_4] 55 (0,0)) (by (with_reducible repeat (first|refine zkN ?_ _|refine zkD ?_|refine zkA ?_ _));exact BK929.out)) : gb932 ≠ gb929));clear BK929;clear HB;have BK929:=n0_;have HB:=n1_;have BK932:=n2_;have GW932:=n3_;have GE932:=n4_;have NB929_932:=n5_;have NB932_929:=n6_;clear n0_ n1_ n2_ n3_ n4_ n5_ n6_;clear hb hbox hg;have hnb29:=NB932_929.out;have hnc29:=NB929_932.out;have hcz30_0 : w28.cell? ⟨gb932,0,none⟩=some (.int .i64 0):=(zkC BK932.out 0).trans rfl;have hcz30_1 : w28.cell? ⟨gb932,1,none⟩=some (.int .i64 0):=(zkC BK932.out 1).trans rfl;have hfz30_0:=zkF BK932.out 0;have hfz30_1:=zkF BK932.out 1))
        have n0_:Z0 (((w28.setCell ⟨gb932,0,none⟩ (.int .i64 ((rd_T103 l0_4 x5_2).f0))).setCell ⟨gb932,1,none⟩ (.int .i64 ((rd_T103 l0_4 x5_2).f1))).heap[gb929]?=some (.cells #[.int .i64 a0_0,.int .i64 a0_1,.string a0_2,.string a0_3,.slice (some ad931) l0_4.length c0_4] 55 (0,0))):=⟨by (with_reducible repeat (first|refine zkN ?_ _|refine zkD ?_|refine zkA ?_ _));refine blk_far ?_ NB929_932.out _;(with_reducible repeat (first|refine zkN ?_ _|refine zkD ?_|refine zkA ?_ _));refine blk_far ?_ NB929_932.out _;(with_reducible repeat (first|refine zkN ?_ _|refine zkD ?_|refine zkA ?_ _));exact BK929.out⟩
        have n1_:Z0 (((w28.setCell ⟨gb932,0,none⟩ (.int .i64 ((rd_T103 l0_4 x5_2).f0))).setCell ⟨gb932,1,none⟩ (.int .i64 ((rd_T103 l0_4 x5_2).f1))).heap[gb932]?=some (.cells #[.int .i64 ((rd_T103 l0_4 x5_2).f0),.int .i64 ((rd_T103 l0_4 x5_2).f1)] 103 (0,0))):=⟨by (with_reducible repeat (first|refine zkN ?_ _|refine zkD ?_|refine zkA ?_ _));refine blk_put (cs:=#[.int .i64 ((rd_T103 l0_4 x5_2).f0),.int .i64 0]) ?_ 1 _ rfl;(with_reducible repeat (first|refine zkN ?_ _|refine zkD ?_|refine zkA ?_ _));refine blk_put (cs:=#[.int .i64 0,.int .i64 0]) ?_ 0 _ rfl;(with_reducible repeat (first|refine zkN ?_ _|refine zkD ?_|refine zkA ?_ _));exact BK932.out⟩
        have n2_:Z0 (Below w.heap.size w ((w28.setCell ⟨gb932,0,none⟩ (.int .i64 ((rd_T103 l0_4 x5_2).f0))).setCell ⟨gb932,1,none⟩ (.int .i64 ((rd_T103 l0_4 x5_2).f1)))):=⟨by repeat (first|(with_reducible first|exact HB.out|apply zbA|apply zbN|apply zb1|refine zbS ?_ GE929.out|refine zbS ?_ GE932.out)|exact HB.out)⟩
        (try clear BK929)
        (try clear BK932)
        (try clear HB)
        generalize ((w28.setCell ⟨gb932,0,none⟩ (.int .i64 ((rd_T103 l0_4 x5_2).f0))).setCell ⟨gb932,1,none⟩ (.int .i64 ((rd_T103 l0_4 x5_2).f1)))=w31 at n0_ n1_ n2_ ⊢
        have BK929:=n0_
        have BK932:=n1_
        have HB:=n2_
        clear n0_ n1_ n2_
        have n0_:=Z0.mk (zkD BK929.out)
        have n1_:=Z0.mk (zkD BK932.out)
        have n2_:=Z0.mk (zb1 HB.out)
        clear BK929
        clear BK932
        clear HB
        have BK929:=n0_
        have BK932:=n1_
        have HB:=n2_
        clear n0_ n1_ n2_
        refine start_ (n:=25) (S:=fun w'=>w'.cell? ⟨gb932,0,none⟩=some (.int .i64 ((rd_T103 l0_4 x5_2).f0))∧w'.cell? ⟨gb932,1,none⟩=some (.int .i64 ((rd_T103 l0_4 x5_2).f1))) (ds:=[]) #[false,false,false,false,false,false,false,false,false,false,false,false,false,false,false,false,false,false,false,false,false,false,false,false,false] (by kernel_rfl) rfl rfl ⟨(zkC BK932.out 0).trans rfl,(zkC BK932.out 1).trans rfl⟩ (fun hHeld=>?_);refine with_tabW q7Valid.tab7 q7Valid.bits7 (fun HT_ HW_=>?_)
        generalize w31.drew=w32 at BK929 BK932 HB hHeld ⊢
        refine pure_ (i:=0) (N:=some 66) (v:=?_) (a':=?_) #[true,false,false,false,false,false,false,false,false,false,false,false,false,false,false,false,false,false,false,false,false,false,false,false,false] rfl rfl (any_of HT_.out (by kernel_rfl)) (fun _ _ _ h=>h) (Or.inl ⟨by rfl,?_⟩) ?_ ?_
        rotate_left
        ·intro w'
         go_simp
         with_reducible rfl
        rotate_left
        ·simp only [Act.put,List.setIfInBounds_toArray,List.set_cons_zero,List.set_cons_succ,i64_w,i32_w]
         rfl
        refine pure_ (i:=2) (N:=some 68) (v:=?_) (a':=?_) #[true,false,true,false,false,false,false,false,false,false,false,false,false,false,false,false,false,false,false,false,false,false,false,false,false] rfl rfl (any_of HT_.out (by kernel_rfl)) (fun _ _ _ h=>h) (Or.inl ⟨by rfl,?_⟩) ?_ ?_
        rotate_left
        ·intro w'
         go_simp
         with_reducible rfl
        rotate_left
        ·simp only [Act.put,List.setIfInBounds_toArray,List.set_cons_zero,List.set_cons_succ,i64_w,i32_w]
         rfl
        refine take_ (i:=1) (N:=some 67) (v:=?_) (a':=?_) #[true,true,true,false,false,false,false,false,false,false,false,false,false,false,false,false,false,false,false,false,false,false,false,false,false] rfl rfl (take_ofW HT_.out HW_.out (by kernel_rfl)) (fun _ _ _ h=>h) (Or.inl ⟨by rfl,?_⟩) hHeld ?_ ?_
        rotate_left
        ·rintro w' ⟨s0,s1⟩
         go_simp
         with_reducible rfl
        rotate_left
        ·simp only [Act.put,List.setIfInBounds_toArray,List.set_cons_zero,List.set_cons_succ,i64_w,i32_w]
         rfl
        refine one_ (i:=3) (N:=some 69) #[true,true,true,true,false,false,false,false,false,false,false,false,false,false,false,false,false,false,false,false,false,false,false,false,false] rfl rfl (one_of HT_.out (by kernel_rfl)) (by decide) (fun K hK=>?_)
        refine goes_ Try.func90 (by kernel_rfl) rfl #[.int .i64 a1] (by rfl) rfl rfl (by (try simp only [List.map_toArray,List.map_cons,List.map_nil]);first|done|rfl|(simp only [List.length_drop,List.length_take];rfl)) ?_
        with_reducible refine (q7TableTracks.calls a1 t933 _ A25.out).mono ?_
        rintro e w' ⟨rfl,⟨nd,rfl⟩⟩
        refine ⟨_,rfl,?_⟩
        refine hK.out _ _ ⟨(zkC BK932.out 0).trans rfl,(zkC BK932.out 1).trans rfl⟩ (fun hHeld=>?_)
        clear hK K
        refine norm_ (a':=?_) ?_ ?_
        rotate_left
        ·show Act.put _ (some 69) _=_
         simp only [Act.put,List.setIfInBounds_toArray,List.set_cons_zero,List.set_cons_succ,i64_w,i32_w]
         rfl
        refine pure_ (i:=4) (N:=some 70) (v:=?_) (a':=?_) #[true,true,true,true,true,false,false,false,false,false,false,false,false,false,false,false,false,false,false,false,false,false,false,false,false] rfl rfl (any_of HT_.out (by kernel_rfl)) (fun _ _ _ h=>h) (Or.inl ⟨by rfl,?_⟩) ?_ ?_
        rotate_left
        ·intro w'
         go_simp
         with_reducible rfl
        rotate_left
        ·simp only [Act.put,List.setIfInBounds_toArray,List.set_cons_zero,List.set_cons_succ,i64_w,i32_w]
         rfl
        refine pure_ (i:=5) (N:=some 71) (v:=?_) (a':=?_) #[true,true,true,true,true,true,false,false,false,false,false,false,false,false,false,false,false,false,false,false,false,false,false,false,false] rfl rfl (any_of HT_.out (by kernel_rfl)) (fun _ _ _ h=>h) (Or.inl ⟨by rfl,?_⟩) ?_ ?_
        rotate_left
        ·intro w'
         go_simp
         with_reducible rfl
        rotate_left
        ·simp only [Act.put,List.setIfInBounds_toArray,List.set_cons_zero,List.set_cons_succ,i64_w,i32_w]
         rfl
        refine pure_ (i:=6) (N:=some 72) (v:=undef) (a':=?_) #[true,true,true,true,true,true,true,false,false,false,false,false,false,false,false,false,false,false,false,false,false,false,false,false,false] rfl rfl (any_of HT_.out (by kernel_rfl)) (fun _ _ _ h=>h) (Or.inr ⟨by rfl,rfl⟩) ?_ ?_
        rotate_left
        ·simp only [Act.put,List.setIfInBounds_toArray,List.set_cons_zero,List.set_cons_succ,i64_w,i32_w]
         rfl
        refine pure_ (i:=7) (N:=some 73) (v:=undef) (a':=?_) #[true,true,true,true,true,true,true,true,false,false,false,false,false,false,false,false,false,false,false,false,false,false,false,false,false] rfl rfl (any_of HT_.out (by kernel_rfl)) (fun _ _ _ h=>h) (Or.inr ⟨by rfl,rfl⟩) ?_ ?_
        rotate_left
        ·simp only [Act.put,List.setIfInBounds_toArray,List.set_cons_zero,List.set_cons_succ,i64_w,i32_w]
         rfl
        refine pure_ (i:=8) (N:=some 74) (v:=undef) (a':=?_) #[true,true,true,true,true,true,true,true,true,false,false,false,false,false,false,false,false,false,false,false,false,false,false,false,false] rfl rfl (any_of HT_.out (by kernel_rfl)) (fun _ _ _ h=>h) (Or.inr ⟨by rfl,rfl⟩) ?_ ?_
        rotate_left
        ·simp only [Act.put,List.setIfInBounds_toArray,List.set_cons_zero,List.set_cons_succ,i64_w,i32_w]
         rfl
        refine pure_ (i:=9) (N:=some 75) (v:=undef) (a':=?_) #[true,true,true,true,true,true,true,true,true,true,false,false,false,false,false,false,false,false,false,false,false,false,false,false,false] rfl rfl (any_of HT_.out (by kernel_rfl)) (fun _ _ _ h=>h) (Or.inr ⟨by rfl,rfl⟩) ?_ ?_
        rotate_left
        ·simp only [Act.put,List.setIfInBounds_toArray,List.set_cons_zero,List.set_cons_succ,i64_w,i32_w]
         rfl
        refine pure_ (i:=10) (N:=some 76) (v:=?_) (a':=?_) #[true,true,true,true,true,true,true,true,true,true,true,false,false,false,false,false,false,false,false,false,false,false,false,false,false] rfl rfl (any_of HT_.out (by kernel_rfl)) (fun _ _ _ h=>h) (Or.inl ⟨by rfl,?_⟩) ?_ ?_
        rotate_left
        ·intro w'
         go_simp
         with_reducible rfl
        rotate_left
        ·simp only [Act.put,List.setIfInBounds_toArray,List.set_cons_zero,List.set_cons_succ,i64_w,i32_w]
         rfl
        refine pure_ (i:=11) (N:=some 77) (v:=?_) (a':=?_) #[true,true,true,true,true,true,true,true,true,true,true,true,false,false,false,false,false,false,false,false,false,false,false,false,false] rfl rfl (any_of HT_.out (by kernel_rfl)) (fun _ _ _ h=>h) (Or.inl ⟨by rfl,?_⟩) ?_ ?_
        rotate_left
        ·intro w'
         go_simp
         with_reducible rfl
        rotate_left
        ·simp only [Act.put,List.setIfInBounds_toArray,List.set_cons_zero,List.set_cons_succ,i64_w,i32_w]
         rfl
        refine pure_ (i:=12) (N:=some 78) (v:=undef) (a':=?_) #[true,true,true,true,true,true,true,true,true,true,true,true,true,false,false,false,false,false,false,false,false,false,false,false,false] rfl rfl (any_of HT_.out (by kernel_rfl)) (fun _ _ _ h=>h) (Or.inr ⟨by rfl,rfl⟩) ?_ ?_
        rotate_left
        ·simp only [Act.put,List.setIfInBounds_toArray,List.set_cons_zero,List.set_cons_succ,i64_w,i32_w]
         rfl
        refine pure_ (i:=13) (N:=some 79) (v:=undef) (a':=?_) #[true,true,true,true,true,true,true,true,true,true,true,true,true,true,false,false,false,false,false,false,false,false,false,false,false] rfl rfl (any_of HT_.out (by kernel_rfl)) (fun _ _ _ h=>h) (Or.inr ⟨by rfl,rfl⟩) ?_ ?_
        rotate_left
        ·simp only [Act.put,List.setIfInBounds_toArray,List.set_cons_zero,List.set_cons_succ,i64_w,i32_w]
         rfl
        refine pure_ (i:=14) (N:=some 80) (v:=undef) (a':=?_) #[true,true,true,true,true,true,true,true,true,true,true,true,true,true,true,false,false,false,false,false,false,false,false,false,false] rfl rfl (any_of HT_.out (by kernel_rfl)) (fun _ _ _ h=>h) (Or.inr ⟨by rfl,rfl⟩) ?_ ?_
        rotate_left
        ·simp only [Act.put,List.setIfInBounds_toArray,List.set_cons_zero,List.set_cons_succ,i64_w,i32_w]
         rfl
        refine pure_ (i:=15) (N:=some 81) (v:=?_) (a':=?_) #[true,true,true,true,true,true,true,true,true,true,true,true,true,true,true,true,false,false,false,false,false,false,false,false,false] rfl rfl (any_of HT_.out (by kernel_rfl)) (fun _ _ _ h=>h) (Or.inl ⟨by rfl,?_⟩) ?_ ?_
        rotate_left
        ·intro w'
         go_simp
         with_reducible rfl
        rotate_left
        ·simp only [Act.put,List.setIfInBounds_toArray,List.set_cons_zero,List.set_cons_succ,i64_w,i32_w]
         rfl
        refine pure_ (i:=16) (N:=some 82) (v:=?_) (a':=?_) #[true,true,true,true,true,true,true,true,true,true,true,true,true,true,true,true,true,false,false,false,false,false,false,false,false] rfl rfl (any_of HT_.out (by kernel_rfl)) (fun _ _ _ h=>h) (Or.inl ⟨by rfl,?_⟩) ?_ ?_
        rotate_left
        ·intro w'
         go_simp
         with_reducible rfl
        rotate_left
        ·simp only [Act.put,List.setIfInBounds_toArray,List.set_cons_zero,List.set_cons_succ,i64_w,i32_w]
         rfl
        refine pure_ (i:=17) (N:=some 83) (v:=undef) (a':=?_) #[true,true,true,true,true,true,true,true,true,true,true,true,true,true,true,true,true,true,false,false,false,false,false,false,false] rfl rfl (any_of HT_.out (by kernel_rfl)) (fun _ _ _ h=>h) (Or.inr ⟨by rfl,rfl⟩) ?_ ?_
        rotate_left
        ·simp only [Act.put,List.setIfInBounds_toArray,List.set_cons_zero,List.set_cons_succ,i64_w,i32_w]
         rfl
        refine pure_ (i:=18) (N:=some 84) (v:=undef) (a':=?_) #[true,true,true,true,true,true,true,true,true,true,true,true,true,true,true,true,true,true,true,false,false,false,false,false,false] rfl rfl (any_of HT_.out (by kernel_rfl)) (fun _ _ _ h=>h) (Or.inr ⟨by rfl,rfl⟩) ?_ ?_
        rotate_left
        ·simp only [Act.put,List.setIfInBounds_toArray,List.set_cons_zero,List.set_cons_succ,i64_w,i32_w]
         rfl
        refine pure_ (i:=19) (N:=some 85) (v:=undef) (a':=?_) #[true,true,true,true,true,true,true,true,true,true,true,true,true,true,true,true,true,true,true,true,false,false,false,false,false] rfl rfl (any_of HT_.out (by kernel_rfl)) (fun _ _ _ h=>h) (Or.inr ⟨by rfl,rfl⟩) ?_ ?_
        rotate_left
        ·simp only [Act.put,List.setIfInBounds_toArray,List.set_cons_zero,List.set_cons_succ,i64_w,i32_w]
         rfl
        refine pure_ (i:=20) (N:=some 86) (v:=undef) (a':=?_) #[true,true,true,true,true,true,true,true,true,true,true,true,true,true,true,true,true,true,true,true,true,false,false,false,false] rfl rfl (any_of HT_.out (by kernel_rfl)) (fun _ _ _ h=>h) (Or.inr ⟨by rfl,rfl⟩) ?_ ?_
        rotate_left
        ·simp only [Act.put,List.setIfInBounds_toArray,List.set_cons_zero,List.set_cons_succ,i64_w,i32_w]
         rfl
        refine pure_ (i:=21) (N:=some 87) (v:=undef) (a':=?_) #[true,true,true,true,true,true,true,true,true,true,true,true,true,true,true,true,true,true,true,true,true,true,false,false,false] rfl rfl (any_of HT_.out (by kernel_rfl)) (fun _ _ _ h=>h) (Or.inr ⟨by rfl,rfl⟩) ?_ ?_
        rotate_left
        ·simp only [Act.put,List.setIfInBounds_toArray,List.set_cons_zero,List.set_cons_succ,i64_w,i32_w]
         rfl
        refine pure_ (i:=22) (N:=some 88) (v:=undef) (a':=?_) #[true,true,true,true,true,true,true,true,true,true,true,true,true,true,true,true,true,true,true,true,true,true,true,false,false] rfl rfl (any_of HT_.out (by kernel_rfl)) (fun _ _ _ h=>h) (Or.inr ⟨by rfl,rfl⟩) ?_ ?_
        rotate_left
        ·simp only [Act.put,List.setIfInBounds_toArray,List.set_cons_zero,List.set_cons_succ,i64_w,i32_w]
         rfl
        refine pure_ (i:=23) (N:=some 89) (v:=undef) (a':=?_) #[true,true,true,true,true,true,true,true,true,true,true,true,true,true,true,true,true,true,true,true,true,true,true,true,false] rfl rfl (any_of HT_.out (by kernel_rfl)) (fun _ _ _ h=>h) (Or.inr ⟨by rfl,rfl⟩) ?_ ?_
        rotate_left
        ·simp only [Act.put,List.setIfInBounds_toArray,List.set_cons_zero,List.set_cons_succ,i64_w,i32_w]
         rfl
        refine pure_ (i:=24) (N:=some 90) (v:=?_) (a':=?_) #[true,true,true,true,true,true,true,true,true,true,true,true,true,true,true,true,true,true,true,true,true,true,true,true,true] rfl rfl (any_of HT_.out (by kernel_rfl)) (fun _ _ _ h=>h) (Or.inl ⟨by rfl,?_⟩) ?_ ?_
        rotate_left
        ·intro w'
         go_simp
         with_reducible rfl
        rotate_left
        ·simp only [Act.put,List.setIfInBounds_toArray,List.set_cons_zero,List.set_cons_succ,i64_w,i32_w]
         rfl
        refine done_ (done_of HT_.out (by kernel_rfl)) ?_
        try go_wp2
        go_ret
        exact ⟨by first|rfl|(simp [errW_none,errW_some] <;> rfl)|(simp [*,errW_none,errW_some] <;> rfl),by repeat (first|(with_reducible first|exact HB.out|apply zbA|apply zbN|apply zb1|refine zbS ?_ GE929.out|refine zbS ?_ GE932.out)|exact HB.out)⟩
       rw [if_neg c26] at H
       have c26b0 : decide (((rd_T103 l0_4 x5_2).f0) < t933)=false:=decide_eq_false c26
       clear c26
       by_cases c33:((rd_T103 l0_4 x5_2).f0) ≥ a1
       ·rw [if_pos c33] at H
        have c33b0 : decide (a1≤((rd_T103 l0_4 x5_2).f0))=true:=decide_eq_true c33
        clear c33
        obtain rfl:=Option.some.inj H
        have hcz34_0 : wr.cell? ⟨gb929,0,none⟩=some (.int .i64 a0_0):=(zkC BK929.out 0).trans rfl
        have hcz34_1 : wr.cell? ⟨gb929,1,none⟩=some (.int .i64 a0_1):=(zkC BK929.out 1).trans rfl
        have hcz34_2 : wr.cell? ⟨gb929,2,none⟩=some (.string a0_2):=(zkC BK929.out 2).trans rfl
        have hcz34_3 : wr.cell? ⟨gb929,3,none⟩=some (.string a0_3):=(zkC BK929.out 3).trans rfl
        have hcz34_4 : wr.cell? ⟨gb929,4,none⟩=some (.slice A0_4 l0_4.length c0_4):=(zkC BK929.out 4).trans rfl
        have hfz34_0:=zkF BK929.out 0
        have hfz34_1:=zkF BK929.out 1
        have hfz34_2:=zkF BK929.out 2
        have hfz34_3:=zkF BK929.out 3
        have hfz34_4:=zkF BK929.out 4
        have p931 : 0≤(x5_2:Int):=of_decide_eq_true (by first|(with_reducible assumption)|assumption)
        have q931 : x5_2 < (l0_4.length:Int):=of_decide_eq_true (by first|(with_reducible assumption)|assumption)
        obtain ⟨ad931,e931,hx931_0,hx931_1⟩:=at_T103 HR0_4.out x5_2 p931 q931
        cases e931
        replace hx931_0:=(HB.out.cell (World.block_lt_of_cell? w _ hx931_0)).trans hx931_0
        replace hx931_1:=(HB.out.cell (World.block_lt_of_cell? w _ hx931_1)).trans hx931_1
        replace p931:=eq_true p931
        replace q931:=eq_true q931
        try go_wp2_with (first|((with_reducible refine gate_dst (N:=6) rfl ?_);(try (refine gate_guard (by rfl) ?_;dsimp only));refine box_event ?hg (N:=6) ?hd (cs:=#[.int .i64 0,.int .i64 0]) (t:=103) ?hr ?_;(case hd=>rfl);(case hg=>rfl);(case hr=>first|(go_simp;done)|(go_simp;rfl));intro gb932 hg w35 hbox hb;have n0_:=Z0.mk (blk_below (g:=gb929) (o:=.cells #[.int .i64 a0_0,.int .i64 a0_1,.string a0_2,.string a0_3,.slice (some ad931) l0_4.length c0_4] 55 (0,0)) (by (with_reducible repeat (first|refine zkN ?_ _|refine zkD ?_|refine zkA ?_ _));exact BK929.out) hb);have n1_:=Z0.mk (below_step (by repeat (first|(with_reducible first|exact HB.out|apply zbA|apply zbN|apply zb1|refine zbS ?_ GE929.out)|exact HB.out)) hb);have n2_:=Z0.mk (hbox);have n3_:=Z0.mk ((by rw [hg];exact (below_size (by repeat (first|(with_reducible first|exact HB.out|apply zbA|apply zbN|apply zb1|refine zbS ?_ GE929.out)|exact HB.out))) : w.heap.size≤gb932));have n4_:=Z0.mk ((by rw [hg];exact (below_size (by repeat (first|(with_reducible first|exact HB.out|apply zbA|apply zbN|apply zb1|refine zbS ?_ GE929.out)|exact HB.out))) : w.heap.size≤gb932));have n5_:=Z0.mk ((by rw [hg];exact Nat.ne_of_lt (blk_lt (g:=gb929) (o:=.cells #[.int .i64 a0_0,.int .i64 a0_1,.string a0_2,.string a0_3,.slice (some ad931) l0_4.length c0_4] 55 (0,0)) (by (with_reducible repeat (first|refine zkN ?_ _|refine zkD ?_|refine zkA ?_ _));exact BK929.out)) : gb929 ≠ gb932));have n6_:=Z0.mk ((by rw [hg];exact Nat.ne_of_gt (blk_lt (g:=gb929) (o:=.cells #[.int .i64 a0_0,.int .i64 a0_1,.string a0_2,.string a0_3,.slice (some ad931) l0_4.length c0_4] 55 (0,0)) (by (with_reducible repeat (first|refine zkN ?_ _|refine zkD ?_|refine zkA ?_ _));exact BK929.out)) : gb932 ≠ gb929));clear BK929;clear HB;have BK929:=n0_;have HB:=n1_;have BK932:=n2_;have GW932:=n3_;have GE932:=n4_;have NB929_932:=n5_;have NB932_929:=n6_;clear n0_ n1_ n2_ n3_ n4_ n5_ n6_;clear hb hbox hg;have hnb36:=NB932_929.out;have hnc36:=NB929_932.out;have hcz37_0 : w35.cell? ⟨gb932,0,none⟩=some (.int .i64 0):=(zkC BK932.out 0).trans rfl;have hcz37_1 : w35.cell? ⟨gb932,1,none⟩=some (.int .i64 0):=(zkC BK932.out 1).trans rfl;have hfz37_0:=zkF BK932.out 0;have hfz37_1:=zkF BK932.out 1))
        have n0_:Z0 (((w35.setCell ⟨gb932,0,none⟩ (.int .i64 ((rd_T103 l0_4 x5_2).f0))).setCell ⟨gb932,1,none⟩ (.int .i64 ((rd_T103 l0_4 x5_2).f1))).heap[gb929]?=some (.cells #[.int .i64 a0_0,.int .i64 a0_1,.string a0_2,.string a0_3,.slice (some ad931) l0_4.length c0_4] 55 (0,0))):=⟨by (with_reducible repeat (first|refine zkN ?_ _|refine zkD ?_|refine zkA ?_ _));refine blk_far ?_ NB929_932.out _;(with_reducible repeat (first|refine zkN ?_ _|refine zkD ?_|refine zkA ?_ _));refine blk_far ?_ NB929_932.out _;(with_reducible repeat (first|refine zkN ?_ _|refine zkD ?_|refine zkA ?_ _));exact BK929.out⟩
        have n1_:Z0 (((w35.setCell ⟨gb932,0,none⟩ (.int .i64 ((rd_T103 l0_4 x5_2).f0))).setCell ⟨gb932,1,none⟩ (.int .i64 ((rd_T103 l0_4 x5_2).f1))).heap[gb932]?=some (.cells #[.int .i64 ((rd_T103 l0_4 x5_2).f0),.int .i64 ((rd_T103 l0_4 x5_2).f1)] 103 (0,0))):=⟨by (with_reducible repeat (first|refine zkN ?_ _|refine zkD ?_|refine zkA ?_ _));refine blk_put (cs:=#[.int .i64 ((rd_T103 l0_4 x5_2).f0),.int .i64 0]) ?_ 1 _ rfl;(with_reducible repeat (first|refine zkN ?_ _|refine zkD ?_|refine zkA ?_ _));refine blk_put (cs:=#[.int .i64 0,.int .i64 0]) ?_ 0 _ rfl;(with_reducible repeat (first|refine zkN ?_ _|refine zkD ?_|refine zkA ?_ _));exact BK932.out⟩
        have n2_:Z0 (Below w.heap.size w ((w35.setCell ⟨gb932,0,none⟩ (.int .i64 ((rd_T103 l0_4 x5_2).f0))).setCell ⟨gb932,1,none⟩ (.int .i64 ((rd_T103 l0_4 x5_2).f1)))):=⟨by repeat (first|(with_reducible first|exact HB.out|apply zbA|apply zbN|apply zb1|refine zbS ?_ GE929.out|refine zbS ?_ GE932.out)|exact HB.out)⟩
        (try clear BK929)
        (try clear BK932)
        (try clear HB)
        generalize ((w35.setCell ⟨gb932,0,none⟩ (.int .i64 ((rd_T103 l0_4 x5_2).f0))).setCell ⟨gb932,1,none⟩ (.int .i64 ((rd_T103 l0_4 x5_2).f1)))=w38 at n0_ n1_ n2_ ⊢
        have BK929:=n0_
        have BK932:=n1_
        have HB:=n2_
        clear n0_ n1_ n2_
        have n0_:=Z0.mk (zkD BK929.out)
        have n1_:=Z0.mk (zkD BK932.out)
        have n2_:=Z0.mk (zb1 HB.out)
        clear BK929
        clear BK932
        clear HB
        have BK929:=n0_
        have BK932:=n1_
        have HB:=n2_
        clear n0_ n1_ n2_
        refine start_ (n:=25) (S:=fun w'=>w'.cell? ⟨gb932,0,none⟩=some (.int .i64 ((rd_T103 l0_4 x5_2).f0))∧w'.cell? ⟨gb932,1,none⟩=some (.int .i64 ((rd_T103 l0_4 x5_2).f1))) (ds:=[]) #[false,false,false,false,false,false,false,false,false,false,false,false,false,false,false,false,false,false,false,false,false,false,false,false,false] (by kernel_rfl) rfl rfl ⟨(zkC BK932.out 0).trans rfl,(zkC BK932.out 1).trans rfl⟩ (fun hHeld=>?_);refine with_tabW q7Valid.tab7 q7Valid.bits7 (fun HT_ HW_=>?_)
        generalize w38.drew=w39 at BK929 BK932 HB hHeld ⊢
        refine pure_ (i:=0) (N:=some 66) (v:=?_) (a':=?_) #[true,false,false,false,false,false,false,false,false,false,false,false,false,false,false,false,false,false,false,false,false,false,false,false,false] rfl rfl (any_of HT_.out (by kernel_rfl)) (fun _ _ _ h=>h) (Or.inl ⟨by rfl,?_⟩) ?_ ?_
        rotate_left
        ·intro w'
         go_simp
         with_reducible rfl
        rotate_left
        ·simp only [Act.put,List.setIfInBounds_toArray,List.set_cons_zero,List.set_cons_succ,i64_w,i32_w]
         rfl
        refine pure_ (i:=2) (N:=some 68) (v:=?_) (a':=?_) #[true,false,true,false,false,false,false,false,false,false,false,false,false,false,false,false,false,false,false,false,false,false,false,false,false] rfl rfl (any_of HT_.out (by kernel_rfl)) (fun _ _ _ h=>h) (Or.inl ⟨by rfl,?_⟩) ?_ ?_
        rotate_left
        ·intro w'
         go_simp
         with_reducible rfl
        rotate_left
        ·simp only [Act.put,List.setIfInBounds_toArray,List.set_cons_zero,List.set_cons_succ,i64_w,i32_w]
         rfl
        refine take_ (i:=1) (N:=some 67) (v:=?_) (a':=?_) #[true,true,true,false,false,false,false,false,false,false,false,false,false,false,false,false,false,false,false,false,false,false,false,false,false] rfl rfl (take_ofW HT_.out HW_.out (by kernel_rfl)) (fun _ _ _ h=>h) (Or.inl ⟨by rfl,?_⟩) hHeld ?_ ?_
        rotate_left
        ·rintro w' ⟨s0,s1⟩
         go_simp
         with_reducible rfl
        rotate_left
        ·simp only [Act.put,List.setIfInBounds_toArray,List.set_cons_zero,List.set_cons_succ,i64_w,i32_w]
         rfl
        refine one_ (i:=3) (N:=some 69) #[true,true,true,true,false,false,false,false,false,false,false,false,false,false,false,false,false,false,false,false,false,false,false,false,false] rfl rfl (one_of HT_.out (by kernel_rfl)) (by decide) (fun K hK=>?_)
        refine goes_ Try.func90 (by kernel_rfl) rfl #[.int .i64 a1] (by rfl) rfl rfl (by (try simp only [List.map_toArray,List.map_cons,List.map_nil]);first|done|rfl|(simp only [List.length_drop,List.length_take];rfl)) ?_
        with_reducible refine (q7TableTracks.calls a1 t933 _ A25.out).mono ?_
        rintro e w' ⟨rfl,⟨nd,rfl⟩⟩
        refine ⟨_,rfl,?_⟩
        refine hK.out _ _ ⟨(zkC BK932.out 0).trans rfl,(zkC BK932.out 1).trans rfl⟩ (fun hHeld=>?_)
        clear hK K
        refine norm_ (a':=?_) ?_ ?_
        rotate_left
        ·show Act.put _ (some 69) _=_
         simp only [Act.put,List.setIfInBounds_toArray,List.set_cons_zero,List.set_cons_succ,i64_w,i32_w]
         rfl
        refine pure_ (i:=4) (N:=some 70) (v:=?_) (a':=?_) #[true,true,true,true,true,false,false,false,false,false,false,false,false,false,false,false,false,false,false,false,false,false,false,false,false] rfl rfl (any_of HT_.out (by kernel_rfl)) (fun _ _ _ h=>h) (Or.inl ⟨by rfl,?_⟩) ?_ ?_
        rotate_left
        ·intro w'
         go_simp
         with_reducible rfl
        rotate_left
        ·simp only [Act.put,List.setIfInBounds_toArray,List.set_cons_zero,List.set_cons_succ,i64_w,i32_w]
         rfl
        refine pure_ (i:=5) (N:=some 71) (v:=?_) (a':=?_) #[true,true,true,true,true,true,false,false,false,false,false,false,false,false,false,false,false,false,false,false,false,false,false,false,false] rfl rfl (any_of HT_.out (by kernel_rfl)) (fun _ _ _ h=>h) (Or.inl ⟨by rfl,?_⟩) ?_ ?_
        rotate_left
        ·intro w'
         go_simp
         with_reducible rfl
        rotate_left
        ·simp only [Act.put,List.setIfInBounds_toArray,List.set_cons_zero,List.set_cons_succ,i64_w,i32_w]
         rfl
        refine pure_ (i:=6) (N:=some 72) (v:=?_) (a':=?_) #[true,true,true,true,true,true,true,false,false,false,false,false,false,false,false,false,false,false,false,false,false,false,false,false,false] rfl rfl (any_of HT_.out (by kernel_rfl)) (fun _ _ _ h=>h) (Or.inl ⟨by rfl,?_⟩) ?_ ?_
        rotate_left
        ·intro w'
         go_simp
         with_reducible rfl
        rotate_left
        ·simp only [Act.put,List.setIfInBounds_toArray,List.set_cons_zero,List.set_cons_succ,i64_w,i32_w]
         rfl
        refine pure_ (i:=8) (N:=some 74) (v:=?_) (a':=?_) #[true,true,true,true,true,true,true,false,true,false,false,false,false,false,false,false,false,false,false,false,false,false,false,false,false] rfl rfl (any_of HT_.out (by kernel_rfl)) (fun _ _ _ h=>h) (Or.inl ⟨by rfl,?_⟩) ?_ ?_
        rotate_left
        ·intro w'
         go_simp
         with_reducible rfl
        rotate_left
        ·simp only [Act.put,List.setIfInBounds_toArray,List.set_cons_zero,List.set_cons_succ,i64_w,i32_w]
         rfl
        refine take_ (i:=7) (N:=some 73) (v:=?_) (a':=?_) #[true,true,true,true,true,true,true,true,true,false,false,false,false,false,false,false,false,false,false,false,false,false,false,false,false] rfl rfl (take_ofW HT_.out HW_.out (by kernel_rfl)) (fun _ _ _ h=>h) (Or.inl ⟨by rfl,?_⟩) hHeld ?_ ?_
        rotate_left
        ·rintro w' ⟨s0,s1⟩
         go_simp
         with_reducible rfl
        rotate_left
        ·simp only [Act.put,List.setIfInBounds_toArray,List.set_cons_zero,List.set_cons_succ,i64_w,i32_w]
         rfl
        refine pure_ (i:=9) (N:=some 75) (v:=?_) (a':=?_) #[true,true,true,true,true,true,true,true,true,true,false,false,false,false,false,false,false,false,false,false,false,false,false,false,false] rfl rfl (any_of HT_.out (by kernel_rfl)) (fun _ _ _ h=>h) (Or.inl ⟨by rfl,?_⟩) ?_ ?_
        rotate_left
        ·intro w'
         go_simp
         with_reducible rfl
        rotate_left
        ·simp only [Act.put,List.setIfInBounds_toArray,List.set_cons_zero,List.set_cons_succ,i64_w,i32_w]
         rfl
        refine pure_ (i:=10) (N:=some 76) (v:=?_) (a':=?_) #[true,true,true,true,true,true,true,true,true,true,true,false,false,false,false,false,false,false,false,false,false,false,false,false,false] rfl rfl (any_of HT_.out (by kernel_rfl)) (fun _ _ _ h=>h) (Or.inl ⟨by rfl,?_⟩) ?_ ?_
        rotate_left
        ·intro w'
         go_simp
         with_reducible rfl
        rotate_left
        ·simp only [Act.put,List.setIfInBounds_toArray,List.set_cons_zero,List.set_cons_succ,i64_w,i32_w]
         rfl
        refine pure_ (i:=11) (N:=some 77) (v:=?_) (a':=?_) #[true,true,true,true,true,true,true,true,true,true,true,true,false,false,false,false,false,false,false,false,false,false,false,false,false] rfl rfl (any_of HT_.out (by kernel_rfl)) (fun _ _ _ h=>h) (Or.inl ⟨by rfl,?_⟩) ?_ ?_
        rotate_left
        ·intro w'
         go_simp
         with_reducible rfl
        rotate_left
        ·simp only [Act.put,List.setIfInBounds_toArray,List.set_cons_zero,List.set_cons_succ,i64_w,i32_w]
         rfl
        refine pure_ (i:=12) (N:=some 78) (v:=undef) (a':=?_) #[true,true,true,true,true,true,true,true,true,true,true,true,true,false,false,false,false,false,false,false,false,false,false,false,false] rfl rfl (any_of HT_.out (by kernel_rfl)) (fun _ _ _ h=>h) (Or.inr ⟨by rfl,rfl⟩) ?_ ?_
        rotate_left
        ·simp only [Act.put,List.setIfInBounds_toArray,List.set_cons_zero,List.set_cons_succ,i64_w,i32_w]
         rfl
        refine pure_ (i:=13) (N:=some 79) (v:=undef) (a':=?_) #[true,true,true,true,true,true,true,true,true,true,true,true,true,true,false,false,false,false,false,false,false,false,false,false,false] rfl rfl (any_of HT_.out (by kernel_rfl)) (fun _ _ _ h=>h) (Or.inr ⟨by rfl,rfl⟩) ?_ ?_
        rotate_left
        ·simp only [Act.put,List.setIfInBounds_toArray,List.set_cons_zero,List.set_cons_succ,i64_w,i32_w]
         rfl
        refine pure_ (i:=14) (N:=some 80) (v:=undef) (a':=?_) #[true,true,true,true,true,true,true,true,true,true,true,true,true,true,true,false,false,false,false,false,false,false,false,false,false] rfl rfl (any_of HT_.out (by kernel_rfl)) (fun _ _ _ h=>h) (Or.inr ⟨by rfl,rfl⟩) ?_ ?_
        rotate_left
        ·simp only [Act.put,List.setIfInBounds_toArray,List.set_cons_zero,List.set_cons_succ,i64_w,i32_w]
         rfl
        refine pure_ (i:=15) (N:=some 81) (v:=?_) (a':=?_) #[true,true,true,true,true,true,true,true,true,true,true,true,true,true,true,true,false,false,false,false,false,false,false,false,false] rfl rfl (any_of HT_.out (by kernel_rfl)) (fun _ _ _ h=>h) (Or.inl ⟨by rfl,?_⟩) ?_ ?_
        rotate_left
        ·intro w'
         go_simp
         with_reducible rfl
        rotate_left
        ·simp only [Act.put,List.setIfInBounds_toArray,List.set_cons_zero,List.set_cons_succ,i64_w,i32_w]
         rfl
        refine pure_ (i:=16) (N:=some 82) (v:=?_) (a':=?_) #[true,true,true,true,true,true,true,true,true,true,true,true,true,true,true,true,true,false,false,false,false,false,false,false,false] rfl rfl (any_of HT_.out (by kernel_rfl)) (fun _ _ _ h=>h) (Or.inl ⟨by rfl,?_⟩) ?_ ?_
        rotate_left
        ·intro w'
         go_simp
         with_reducible rfl
        rotate_left
        ·simp only [Act.put,List.setIfInBounds_toArray,List.set_cons_zero,List.set_cons_succ,i64_w,i32_w]
         rfl
        refine pure_ (i:=17) (N:=some 83) (v:=undef) (a':=?_) #[true,true,true,true,true,true,true,true,true,true,true,true,true,true,true,true,true,true,false,false,false,false,false,false,false] rfl rfl (any_of HT_.out (by kernel_rfl)) (fun _ _ _ h=>h) (Or.inr ⟨by rfl,rfl⟩) ?_ ?_
        rotate_left
        ·simp only [Act.put,List.setIfInBounds_toArray,List.set_cons_zero,List.set_cons_succ,i64_w,i32_w]
         rfl
        refine pure_ (i:=18) (N:=some 84) (v:=undef) (a':=?_) #[true,true,true,true,true,true,true,true,true,true,true,true,true,true,true,true,true,true,true,false,false,false,false,false,false] rfl rfl (any_of HT_.out (by kernel_rfl)) (fun _ _ _ h=>h) (Or.inr ⟨by rfl,rfl⟩) ?_ ?_
        rotate_left
        ·simp only [Act.put,List.setIfInBounds_toArray,List.set_cons_zero,List.set_cons_succ,i64_w,i32_w]
         rfl
        refine pure_ (i:=19) (N:=some 85) (v:=undef) (a':=?_) #[true,true,true,true,true,true,true,true,true,true,true,true,true,true,true,true,true,true,true,true,false,false,false,false,false] rfl rfl (any_of HT_.out (by kernel_rfl)) (fun _ _ _ h=>h) (Or.inr ⟨by rfl,rfl⟩) ?_ ?_
        rotate_left
        ·simp only [Act.put,List.setIfInBounds_toArray,List.set_cons_zero,List.set_cons_succ,i64_w,i32_w]
         rfl
        refine pure_ (i:=20) (N:=some 86) (v:=undef) (a':=?_) #[true,true,true,true,true,true,true,true,true,true,true,true,true,true,true,true,true,true,true,true,true,false,false,false,false] rfl rfl (any_of HT_.out (by kernel_rfl)) (fun _ _ _ h=>h) (Or.inr ⟨by rfl,rfl⟩) ?_ ?_
        rotate_left
        ·simp only [Act.put,List.setIfInBounds_toArray,List.set_cons_zero,List.set_cons_succ,i64_w,i32_w]
         rfl
        refine pure_ (i:=21) (N:=some 87) (v:=undef) (a':=?_) #[true,true,true,true,true,true,true,true,true,true,true,true,true,true,true,true,true,true,true,true,true,true,false,false,false] rfl rfl (any_of HT_.out (by kernel_rfl)) (fun _ _ _ h=>h) (Or.inr ⟨by rfl,rfl⟩) ?_ ?_
        rotate_left
        ·simp only [Act.put,List.setIfInBounds_toArray,List.set_cons_zero,List.set_cons_succ,i64_w,i32_w]
         rfl
        refine pure_ (i:=22) (N:=some 88) (v:=undef) (a':=?_) #[true,true,true,true,true,true,true,true,true,true,true,true,true,true,true,true,true,true,true,true,true,true,true,false,false] rfl rfl (any_of HT_.out (by kernel_rfl)) (fun _ _ _ h=>h) (Or.inr ⟨by rfl,rfl⟩) ?_ ?_
        rotate_left
        ·simp only [Act.put,List.setIfInBounds_toArray,List.set_cons_zero,List.set_cons_succ,i64_w,i32_w]
         rfl
        refine pure_ (i:=23) (N:=some 89) (v:=undef) (a':=?_) #[true,true,true,true,true,true,true,true,true,true,true,true,true,true,true,true,true,true,true,true,true,true,true,true,false] rfl rfl (any_of HT_.out (by kernel_rfl)) (fun _ _ _ h=>h) (Or.inr ⟨by rfl,rfl⟩) ?_ ?_
        rotate_left
        ·simp only [Act.put,List.setIfInBounds_toArray,List.set_cons_zero,List.set_cons_succ,i64_w,i32_w]
         rfl
        refine pure_ (i:=24) (N:=some 90) (v:=?_) (a':=?_) #[true,true,true,true,true,true,true,true,true,true,true,true,true,true,true,true,true,true,true,true,true,true,true,true,true] rfl rfl (any_of HT_.out (by kernel_rfl)) (fun _ _ _ h=>h) (Or.inl ⟨by rfl,?_⟩) ?_ ?_
        rotate_left
        ·intro w'
         go_simp
         with_reducible rfl
        rotate_left
        ·simp only [Act.put,List.setIfInBounds_toArray,List.set_cons_zero,List.set_cons_succ,i64_w,i32_w]
         rfl
        refine done_ (done_of HT_.out (by kernel_rfl)) ?_
        try go_wp2
        go_ret
        exact ⟨by first|rfl|(simp [errW_none,errW_some] <;> rfl)|(simp [*,errW_none,errW_some] <;> rfl),by repeat (first|(with_reducible first|exact HB.out|apply zbA|apply zbN|apply zb1|refine zbS ?_ GE929.out|refine zbS ?_ GE932.out)|exact HB.out)⟩
       rw [if_neg c33] at H
       have c33b0 : decide (a1≤((rd_T103 l0_4 x5_2).f0))=false:=decide_eq_false c33
       clear c33
       by_cases c40:((rd_T103 l0_4 x5_2).f1) < 1
       ·rw [if_pos c40] at H
        have c40b0 : decide (((rd_T103 l0_4 x5_2).f1) < 1)=true:=decide_eq_true c40
        clear c40
        obtain rfl:=Option.some.inj H
        have hcz41_0 : wr.cell? ⟨gb929,0,none⟩=some (.int .i64 a0_0):=(zkC BK929.out 0).trans rfl
        have hcz41_1 : wr.cell? ⟨gb929,1,none⟩=some (.int .i64 a0_1):=(zkC BK929.out 1).trans rfl
        have hcz41_2 : wr.cell? ⟨gb929,2,none⟩=some (.string a0_2):=(zkC BK929.out 2).trans rfl
        have hcz41_3 : wr.cell? ⟨gb929,3,none⟩=some (.string a0_3):=(zkC BK929.out 3).trans rfl
        have hcz41_4 : wr.cell? ⟨gb929,4,none⟩=some (.slice A0_4 l0_4.length c0_4):=(zkC BK929.out 4).trans rfl
        have hfz41_0:=zkF BK929.out 0
        have hfz41_1:=zkF BK929.out 1
        have hfz41_2:=zkF BK929.out 2
        have hfz41_3:=zkF BK929.out 3
        have hfz41_4:=zkF BK929.out 4
        have p931 : 0≤(x5_2:Int):=of_decide_eq_true (by first|(with_reducible assumption)|assumption)
        have q931 : x5_2 < (l0_4.length:Int):=of_decide_eq_true (by first|(with_reducible assumption)|assumption)
        obtain ⟨ad931,e931,hx931_0,hx931_1⟩:=at_T103 HR0_4.out x5_2 p931 q931
        cases e931
        replace hx931_0:=(HB.out.cell (World.block_lt_of_cell? w _ hx931_0)).trans hx931_0
        replace hx931_1:=(HB.out.cell (World.block_lt_of_cell? w _ hx931_1)).trans hx931_1
        replace p931:=eq_true p931
        replace q931:=eq_true q931
        try go_wp2_with (first|((with_reducible refine gate_dst (N:=6) rfl ?_);(try (refine gate_guard (by rfl) ?_;dsimp only));refine box_event ?hg (N:=6) ?hd (cs:=#[.int .i64 0,.int .i64 0]) (t:=103) ?hr ?_;(case hd=>rfl);(case hg=>rfl);(case hr=>first|(go_simp;done)|(go_simp;rfl));intro gb932 hg w42 hbox hb;have n0_:=Z0.mk (blk_below (g:=gb929) (o:=.cells #[.int .i64 a0_0,.int .i64 a0_1,.string a0_2,.string a0_3,.slice (some ad931) l0_4.length c0_4] 55 (0,0)) (by (with_reducible repeat (first|refine zkN ?_ _|refine zkD ?_|refine zkA ?_ _));exact BK929.out) hb);have n1_:=Z0.mk (below_step (by repeat (first|(with_reducible first|exact HB.out|apply zbA|apply zbN|apply zb1|refine zbS ?_ GE929.out)|exact HB.out)) hb);have n2_:=Z0.mk (hbox);have n3_:=Z0.mk ((by rw [hg];exact (below_size (by repeat (first|(with_reducible first|exact HB.out|apply zbA|apply zbN|apply zb1|refine zbS ?_ GE929.out)|exact HB.out))) : w.heap.size≤gb932));have n4_:=Z0.mk ((by rw [hg];exact (below_size (by repeat (first|(with_reducible first|exact HB.out|apply zbA|apply zbN|apply zb1|refine zbS ?_ GE929.out)|exact HB.out))) : w.heap.size≤gb932));have n5_:=Z0.mk ((by rw [hg];exact Nat.ne_of_lt (blk_lt (g:=gb929) (o:=.cells #[.int .i64 a0_0,.int .i64 a0_1,.string a0_2,.string a0_3,.slice (some ad931) l0_4.length c0_4] 55 (0,0)) (by (with_reducible repeat (first|refine zkN ?_ _|refine zkD ?_|refine zkA ?_ _));exact BK929.out)) : gb929 ≠ gb932));have n6_:=Z0.mk ((by rw [hg];exact Nat.ne_of_gt (blk_lt (g:=gb929) (o:=.cells #[.int .i64 a0_0,.int .i64 a0_1,.string a0_2,.string a0_3,.slice (some ad931) l0_4.length c0_4] 55 (0,0)) (by (with_reducible repeat (first|refine zkN ?_ _|refine zkD ?_|refine zkA ?_ _));exact BK929.out)) : gb932 ≠ gb929));clear BK929;clear HB;have BK929:=n0_;have HB:=n1_;have BK932:=n2_;have GW932:=n3_;have GE932:=n4_;have NB929_932:=n5_;have NB932_929:=n6_;clear n0_ n1_ n2_ n3_ n4_ n5_ n6_;clear hb hbox hg;have hnb43:=NB932_929.out;have hnc43:=NB929_932.out;have hcz44_0 : w42.cell? ⟨gb932,0,none⟩=some (.int .i64 0):=(zkC BK932.out 0).trans rfl;have hcz44_1 : w42.cell? ⟨gb932,1,none⟩=some (.int .i64 0):=(zkC BK932.out 1).trans rfl;have hfz44_0:=zkF BK932.out 0;have hfz44_1:=zkF BK932.out 1))
        have n0_:Z0 (((w42.setCell ⟨gb932,0,none⟩ (.int .i64 ((rd_T103 l0_4 x5_2).f0))).setCell ⟨gb932,1,none⟩ (.int .i64 ((rd_T103 l0_4 x5_2).f1))).heap[gb929]?=some (.cells #[.int .i64 a0_0,.int .i64 a0_1,.string a0_2,.string a0_3,.slice (some ad931) l0_4.length c0_4] 55 (0,0))):=⟨by (with_reducible repeat (first|refine zkN ?_ _|refine zkD ?_|refine zkA ?_ _));refine blk_far ?_ NB929_932.out _;(with_reducible repeat (first|refine zkN ?_ _|refine zkD ?_|refine zkA ?_ _));refine blk_far ?_ NB929_932.out _;(with_reducible repeat (first|refine zkN ?_ _|refine zkD ?_|refine zkA ?_ _));exact BK929.out⟩
        have n1_:Z0 (((w42.setCell ⟨gb932,0,none⟩ (.int .i64 ((rd_T103 l0_4 x5_2).f0))).setCell ⟨gb932,1,none⟩ (.int .i64 ((rd_T103 l0_4 x5_2).f1))).heap[gb932]?=some (.cells #[.int .i64 ((rd_T103 l0_4 x5_2).f0),.int .i64 ((rd_T103 l0_4 x5_2).f1)] 103 (0,0))):=⟨by (with_reducible repeat (first|refine zkN ?_ _|refine zkD ?_|refine zkA ?_ _));refine blk_put (cs:=#[.int .i64 ((rd_T103 l0_4 x5_2).f0),.int .i64 0]) ?_ 1 _ rfl;(with_reducible repeat (first|refine zkN ?_ _|refine zkD ?_|refine zkA ?_ _));refine blk_put (cs:=#[.int .i64 0,.int .i64 0]) ?_ 0 _ rfl;(with_reducible repeat (first|refine zkN ?_ _|refine zkD ?_|refine zkA ?_ _));exact BK932.out⟩
        have n2_:Z0 (Below w.heap.size w ((w42.setCell ⟨gb932,0,none⟩ (.int .i64 ((rd_T103 l0_4 x5_2).f0))).setCell ⟨gb932,1,none⟩ (.int .i64 ((rd_T103 l0_4 x5_2).f1)))):=⟨by repeat (first|(with_reducible first|exact HB.out|apply zbA|apply zbN|apply zb1|refine zbS ?_ GE929.out|refine zbS ?_ GE932.out)|exact HB.out)⟩
        (try clear BK929)
        (try clear BK932)
        (try clear HB)
        generalize ((w42.setCell ⟨gb932,0,none⟩ (.int .i64 ((rd_T103 l0_4 x5_2).f0))).setCell ⟨gb932,1,none⟩ (.int .i64 ((rd_T103 l0_4 x5_2).f1)))=w45 at n0_ n1_ n2_ ⊢
        have BK929:=n0_
        have BK932:=n1_
        have HB:=n2_
        clear n0_ n1_ n2_
        have n0_:=Z0.mk (zkD BK929.out)
        have n1_:=Z0.mk (zkD BK932.out)
        have n2_:=Z0.mk (zb1 HB.out)
        clear BK929
        clear BK932
        clear HB
        have BK929:=n0_
        have BK932:=n1_
        have HB:=n2_
        clear n0_ n1_ n2_
        refine start_ (n:=25) (S:=fun w'=>w'.cell? ⟨gb932,0,none⟩=some (.int .i64 ((rd_T103 l0_4 x5_2).f0))∧w'.cell? ⟨gb932,1,none⟩=some (.int .i64 ((rd_T103 l0_4 x5_2).f1))) (ds:=[]) #[false,false,false,false,false,false,false,false,false,false,false,false,false,false,false,false,false,false,false,false,false,false,false,false,false] (by kernel_rfl) rfl rfl ⟨(zkC BK932.out 0).trans rfl,(zkC BK932.out 1).trans rfl⟩ (fun hHeld=>?_);refine with_tabW q7Valid.tab7 q7Valid.bits7 (fun HT_ HW_=>?_)
        generalize w45.drew=w46 at BK929 BK932 HB hHeld ⊢
        refine pure_ (i:=0) (N:=some 66) (v:=?_) (a':=?_) #[true,false,false,false,false,false,false,false,false,false,false,false,false,false,false,false,false,false,false,false,false,false,false,false,false] rfl rfl (any_of HT_.out (by kernel_rfl)) (fun _ _ _ h=>h) (Or.inl ⟨by rfl,?_⟩) ?_ ?_
        rotate_left
        ·intro w'
         go_simp
         with_reducible rfl
        rotate_left
        ·simp only [Act.put,List.setIfInBounds_toArray,List.set_cons_zero,List.set_cons_succ,i64_w,i32_w]
         rfl
        refine pure_ (i:=2) (N:=some 68) (v:=?_) (a':=?_) #[true,false,true,false,false,false,false,false,false,false,false,false,false,false,false,false,false,false,false,false,false,false,false,false,false] rfl rfl (any_of HT_.out (by kernel_rfl)) (fun _ _ _ h=>h) (Or.inl ⟨by rfl,?_⟩) ?_ ?_
        rotate_left
        ·intro w'
         go_simp
         with_reducible rfl
        rotate_left
        ·simp only [Act.put,List.setIfInBounds_toArray,List.set_cons_zero,List.set_cons_succ,i64_w,i32_w]
         rfl
        refine take_ (i:=1) (N:=some 67) (v:=?_) (a':=?_) #[true,true,true,false,false,false,false,false,false,false,false,false,false,false,false,false,false,false,false,false,false,false,false,false,false] rfl rfl (take_ofW HT_.out HW_.out (by kernel_rfl)) (fun _ _ _ h=>h) (Or.inl ⟨by rfl,?_⟩) hHeld ?_ ?_
        rotate_left
        ·rintro w' ⟨s0,s1⟩
         go_simp
         with_reducible rfl
        rotate_left
        ·simp only [Act.put,List.setIfInBounds_toArray,List.set_cons_zero,List.set_cons_succ,i64_w,i32_w]
         rfl
        refine one_ (i:=3) (N:=some 69) #[true,true,true,true,false,false,false,false,false,false,false,false,false,false,false,false,false,false,false,false,false,false,false,false,false] rfl rfl (one_of HT_.out (by kernel_rfl)) (by decide) (fun K hK=>?_)
        refine goes_ Try.func90 (by kernel_rfl) rfl #[.int .i64 a1] (by rfl) rfl rfl (by (try simp only [List.map_toArray,List.map_cons,List.map_nil]);first|done|rfl|(simp only [List.length_drop,List.length_take];rfl)) ?_
        with_reducible refine (q7TableTracks.calls a1 t933 _ A25.out).mono ?_
        rintro e w' ⟨rfl,⟨nd,rfl⟩⟩
        refine ⟨_,rfl,?_⟩
        refine hK.out _ _ ⟨(zkC BK932.out 0).trans rfl,(zkC BK932.out 1).trans rfl⟩ (fun hHeld=>?_)
        clear hK K
        refine norm_ (a':=?_) ?_ ?_
        rotate_left
        ·show Act.put _ (some 69) _=_
         simp only [Act.put,List.setIfInBounds_toArray,List.set_cons_zero,List.set_cons_succ,i64_w,i32_w]
         rfl
        refine pure_ (i:=4) (N:=some 70) (v:=?_) (a':=?_) #[true,true,true,true,true,false,false,false,false,false,false,false,false,false,false,false,false,false,false,false,false,false,false,false,false] rfl rfl (any_of HT_.out (by kernel_rfl)) (fun _ _ _ h=>h) (Or.inl ⟨by rfl,?_⟩) ?_ ?_
        rotate_left
        ·intro w'
         go_simp
         with_reducible rfl
        rotate_left
        ·simp only [Act.put,List.setIfInBounds_toArray,List.set_cons_zero,List.set_cons_succ,i64_w,i32_w]
         rfl
        refine pure_ (i:=5) (N:=some 71) (v:=?_) (a':=?_) #[true,true,true,true,true,true,false,false,false,false,false,false,false,false,false,false,false,false,false,false,false,false,false,false,false] rfl rfl (any_of HT_.out (by kernel_rfl)) (fun _ _ _ h=>h) (Or.inl ⟨by rfl,?_⟩) ?_ ?_
        rotate_left
        ·intro w'
         go_simp
         with_reducible rfl
        rotate_left
        ·simp only [Act.put,List.setIfInBounds_toArray,List.set_cons_zero,List.set_cons_succ,i64_w,i32_w]
         rfl
        refine pure_ (i:=6) (N:=some 72) (v:=?_) (a':=?_) #[true,true,true,true,true,true,true,false,false,false,false,false,false,false,false,false,false,false,false,false,false,false,false,false,false] rfl rfl (any_of HT_.out (by kernel_rfl)) (fun _ _ _ h=>h) (Or.inl ⟨by rfl,?_⟩) ?_ ?_
        rotate_left
        ·intro w'
         go_simp
         with_reducible rfl
        rotate_left
        ·simp only [Act.put,List.setIfInBounds_toArray,List.set_cons_zero,List.set_cons_succ,i64_w,i32_w]
         rfl
        refine pure_ (i:=8) (N:=some 74) (v:=?_) (a':=?_) #[true,true,true,true,true,true,true,false,true,false,false,false,false,false,false,false,false,false,false,false,false,false,false,false,false] rfl rfl (any_of HT_.out (by kernel_rfl)) (fun _ _ _ h=>h) (Or.inl ⟨by rfl,?_⟩) ?_ ?_
        rotate_left
        ·intro w'
         go_simp
         with_reducible rfl
        rotate_left
        ·simp only [Act.put,List.setIfInBounds_toArray,List.set_cons_zero,List.set_cons_succ,i64_w,i32_w]
         rfl
        refine take_ (i:=7) (N:=some 73) (v:=?_) (a':=?_) #[true,true,true,true,true,true,true,true,true,false,false,false,false,false,false,false,false,false,false,false,false,false,false,false,false] rfl rfl (take_ofW HT_.out HW_.out (by kernel_rfl)) (fun _ _ _ h=>h) (Or.inl ⟨by rfl,?_⟩) hHeld ?_ ?_
        rotate_left
        ·rintro w' ⟨s0,s1⟩
         go_simp
         with_reducible rfl
        rotate_left
        ·simp only [Act.put,List.setIfInBounds_toArray,List.set_cons_zero,List.set_cons_succ,i64_w,i32_w]
         rfl
        refine pure_ (i:=9) (N:=some 75) (v:=?_) (a':=?_) #[true,true,true,true,true,true,true,true,true,true,false,false,false,false,false,false,false,false,false,false,false,false,false,false,false] rfl rfl (any_of HT_.out (by kernel_rfl)) (fun _ _ _ h=>h) (Or.inl ⟨by rfl,?_⟩) ?_ ?_
        rotate_left
        ·intro w'
         go_simp
         with_reducible rfl
        rotate_left
        ·simp only [Act.put,List.setIfInBounds_toArray,List.set_cons_zero,List.set_cons_succ,i64_w,i32_w]
         rfl
        refine pure_ (i:=10) (N:=some 76) (v:=?_) (a':=?_) #[true,true,true,true,true,true,true,true,true,true,true,false,false,false,false,false,false,false,false,false,false,false,false,false,false] rfl rfl (any_of HT_.out (by kernel_rfl)) (fun _ _ _ h=>h) (Or.inl ⟨by rfl,?_⟩) ?_ ?_
        rotate_left
        ·intro w'
         go_simp
         with_reducible rfl
        rotate_left
        ·simp only [Act.put,List.setIfInBounds_toArray,List.set_cons_zero,List.set_cons_succ,i64_w,i32_w]
         rfl
        refine pure_ (i:=11) (N:=some 77) (v:=?_) (a':=?_) #[true,true,true,true,true,true,true,true,true,true,true,true,false,false,false,false,false,false,false,false,false,false,false,false,false] rfl rfl (any_of HT_.out (by kernel_rfl)) (fun _ _ _ h=>h) (Or.inl ⟨by rfl,?_⟩) ?_ ?_
        rotate_left
        ·intro w'
         go_simp
         with_reducible rfl
        rotate_left
        ·simp only [Act.put,List.setIfInBounds_toArray,List.set_cons_zero,List.set_cons_succ,i64_w,i32_w]
         rfl
        refine pure_ (i:=12) (N:=some 78) (v:=?_) (a':=?_) #[true,true,true,true,true,true,true,true,true,true,true,true,true,false,false,false,false,false,false,false,false,false,false,false,false] rfl rfl (any_of HT_.out (by kernel_rfl)) (fun _ _ _ h=>h) (Or.inl ⟨by rfl,?_⟩) ?_ ?_
        rotate_left
        ·intro w'
         go_simp
         with_reducible rfl
        rotate_left
        ·simp only [Act.put,List.setIfInBounds_toArray,List.set_cons_zero,List.set_cons_succ,i64_w,i32_w]
         rfl
        refine take_ (i:=13) (N:=some 79) (v:=?_) (a':=?_) #[true,true,true,true,true,true,true,true,true,true,true,true,true,true,false,false,false,false,false,false,false,false,false,false,false] rfl rfl (take_ofW HT_.out HW_.out (by kernel_rfl)) (fun _ _ _ h=>h) (Or.inl ⟨by rfl,?_⟩) hHeld ?_ ?_
        rotate_left
        ·rintro w' ⟨s0,s1⟩
         go_simp
         with_reducible rfl
        rotate_left
        ·simp only [Act.put,List.setIfInBounds_toArray,List.set_cons_zero,List.set_cons_succ,i64_w,i32_w]
         rfl
        refine pure_ (i:=14) (N:=some 80) (v:=?_) (a':=?_) #[true,true,true,true,true,true,true,true,true,true,true,true,true,true,true,false,false,false,false,false,false,false,false,false,false] rfl rfl (any_of HT_.out (by kernel_rfl)) (fun _ _ _ h=>h) (Or.inl ⟨by rfl,?_⟩) ?_ ?_
        rotate_left
        ·intro w'
         go_simp
         with_reducible rfl
        rotate_left
        ·simp only [Act.put,List.setIfInBounds_toArray,List.set_cons_zero,List.set_cons_succ,i64_w,i32_w]
         rfl
        refine pure_ (i:=15) (N:=some 81) (v:=?_) (a':=?_) #[true,true,true,true,true,true,true,true,true,true,true,true,true,true,true,true,false,false,false,false,false,false,false,false,false] rfl rfl (any_of HT_.out (by kernel_rfl)) (fun _ _ _ h=>h) (Or.inl ⟨by rfl,?_⟩) ?_ ?_
        rotate_left
        ·intro w'
         go_simp
         with_reducible rfl
        rotate_left
        ·simp only [Act.put,List.setIfInBounds_toArray,List.set_cons_zero,List.set_cons_succ,i64_w,i32_w]
         rfl
        refine pure_ (i:=16) (N:=some 82) (v:=?_) (a':=?_) #[true,true,true,true,true,true,true,true,true,true,true,true,true,true,true,true,true,false,false,false,false,false,false,false,false] rfl rfl (any_of HT_.out (by kernel_rfl)) (fun _ _ _ h=>h) (Or.inl ⟨by rfl,?_⟩) ?_ ?_
        rotate_left
        ·intro w'
         go_simp
         with_reducible rfl
        rotate_left
        ·simp only [Act.put,List.setIfInBounds_toArray,List.set_cons_zero,List.set_cons_succ,i64_w,i32_w]
         rfl
        refine pure_ (i:=17) (N:=some 83) (v:=undef) (a':=?_) #[true,true,true,true,true,true,true,true,true,true,true,true,true,true,true,true,true,true,false,false,false,false,false,false,false] rfl rfl (any_of HT_.out (by kernel_rfl)) (fun _ _ _ h=>h) (Or.inr ⟨by rfl,rfl⟩) ?_ ?_
        rotate_left
        ·simp only [Act.put,List.setIfInBounds_toArray,List.set_cons_zero,List.set_cons_succ,i64_w,i32_w]
         rfl
        refine pure_ (i:=18) (N:=some 84) (v:=undef) (a':=?_) #[true,true,true,true,true,true,true,true,true,true,true,true,true,true,true,true,true,true,true,false,false,false,false,false,false] rfl rfl (any_of HT_.out (by kernel_rfl)) (fun _ _ _ h=>h) (Or.inr ⟨by rfl,rfl⟩) ?_ ?_
        rotate_left
        ·simp only [Act.put,List.setIfInBounds_toArray,List.set_cons_zero,List.set_cons_succ,i64_w,i32_w]
         rfl
        refine pure_ (i:=19) (N:=some 85) (v:=undef) (a':=?_) #[true,true,true,true,true,true,true,true,true,true,true,true,true,true,true,true,true,true,true,true,false,false,false,false,false] rfl rfl (any_of HT_.out (by kernel_rfl)) (fun _ _ _ h=>h) (Or.inr ⟨by rfl,rfl⟩) ?_ ?_
        rotate_left
        ·simp only [Act.put,List.setIfInBounds_toArray,List.set_cons_zero,List.set_cons_succ,i64_w,i32_w]
         rfl
        refine pure_ (i:=20) (N:=some 86) (v:=undef) (a':=?_) #[true,true,true,true,true,true,true,true,true,true,true,true,true,true,true,true,true,true,true,true,true,false,false,false,false] rfl rfl (any_of HT_.out (by kernel_rfl)) (fun _ _ _ h=>h) (Or.inr ⟨by rfl,rfl⟩) ?_ ?_
        rotate_left
        ·simp only [Act.put,List.setIfInBounds_toArray,List.set_cons_zero,List.set_cons_succ,i64_w,i32_w]
         rfl
        refine pure_ (i:=21) (N:=some 87) (v:=undef) (a':=?_) #[true,true,true,true,true,true,true,true,true,true,true,true,true,true,true,true,true,true,true,true,true,true,false,false,false] rfl rfl (any_of HT_.out (by kernel_rfl)) (fun _ _ _ h=>h) (Or.inr ⟨by rfl,rfl⟩) ?_ ?_
        rotate_left
        ·simp only [Act.put,List.setIfInBounds_toArray,List.set_cons_zero,List.set_cons_succ,i64_w,i32_w]
         rfl
        refine pure_ (i:=22) (N:=some 88) (v:=undef) (a':=?_) #[true,true,true,true,true,true,true,true,true,true,true,true,true,true,true,true,true,true,true,true,true,true,true,false,false] rfl rfl (any_of HT_.out (by kernel_rfl)) (fun _ _ _ h=>h) (Or.inr ⟨by rfl,rfl⟩) ?_ ?_
        rotate_left
        ·simp only [Act.put,List.setIfInBounds_toArray,List.set_cons_zero,List.set_cons_succ,i64_w,i32_w]
         rfl
        refine pure_ (i:=23) (N:=some 89) (v:=undef) (a':=?_) #[true,true,true,true,true,true,true,true,true,true,true,true,true,true,true,true,true,true,true,true,true,true,true,true,false] rfl rfl (any_of HT_.out (by kernel_rfl)) (fun _ _ _ h=>h) (Or.inr ⟨by rfl,rfl⟩) ?_ ?_
        rotate_left
        ·simp only [Act.put,List.setIfInBounds_toArray,List.set_cons_zero,List.set_cons_succ,i64_w,i32_w]
         rfl
        refine pure_ (i:=24) (N:=some 90) (v:=?_) (a':=?_) #[true,true,true,true,true,true,true,true,true,true,true,true,true,true,true,true,true,true,true,true,true,true,true,true,true] rfl rfl (any_of HT_.out (by kernel_rfl)) (fun _ _ _ h=>h) (Or.inl ⟨by rfl,?_⟩) ?_ ?_
        rotate_left
        ·intro w'
         go_simp
         with_reducible rfl
        rotate_left
        ·simp only [Act.put,List.setIfInBounds_toArray,List.set_cons_zero,List.set_cons_succ,i64_w,i32_w]
         rfl
        refine done_ (done_of HT_.out (by kernel_rfl)) ?_
        try go_wp2
        go_ret
        exact ⟨by first|rfl|(simp [errW_none,errW_some] <;> rfl)|(simp [*,errW_none,errW_some] <;> rfl),by repeat (first|(with_reducible first|exact HB.out|apply zbA|apply zbN|apply zb1|refine zbS ?_ GE929.out|refine zbS ?_ GE932.out)|exact HB.out)⟩
       rw [if_neg c40] at H
       have c40b0 : decide (((rd_T103 l0_4 x5_2).f1) < 1)=false:=decide_eq_false c40
       clear c40
       by_cases c47:((rd_T103 l0_4 x5_2).f1) > (wrap64 (a1 - ((rd_T103 l0_4 x5_2).f0)))
       ·rw [if_pos c47] at H
        have c47b0 : decide ((wrap64 (a1 - ((rd_T103 l0_4 x5_2).f0))) < ((rd_T103 l0_4 x5_2).f1))=true:=decide_eq_true c47
        clear c47
        obtain rfl:=Option.some.inj H
        have hcz48_0 : wr.cell? ⟨gb929,0,none⟩=some (.int .i64 a0_0):=(zkC BK929.out 0).trans rfl
        have hcz48_1 : wr.cell? ⟨gb929,1,none⟩=some (.int .i64 a0_1):=(zkC BK929.out 1).trans rfl
        have hcz48_2 : wr.cell? ⟨gb929,2,none⟩=some (.string a0_2):=(zkC BK929.out 2).trans rfl
        have hcz48_3 : wr.cell? ⟨gb929,3,none⟩=some (.string a0_3):=(zkC BK929.out 3).trans rfl
        have hcz48_4 : wr.cell? ⟨gb929,4,none⟩=some (.slice A0_4 l0_4.length c0_4):=(zkC BK929.out 4).trans rfl
        have hfz48_0:=zkF BK929.out 0
        have hfz48_1:=zkF BK929.out 1
        have hfz48_2:=zkF BK929.out 2
        have hfz48_3:=zkF BK929.out 3
        have hfz48_4:=zkF BK929.out 4
        have p931 : 0≤(x5_2:Int):=of_decide_eq_true (by first|(with_reducible assumption)|assumption)
        have q931 : x5_2 < (l0_4.length:Int):=of_decide_eq_true (by first|(with_reducible assumption)|assumption)
        obtain ⟨ad931,e931,hx931_0,hx931_1⟩:=at_T103 HR0_4.out x5_2 p931 q931
        cases e931
        replace hx931_0:=(HB.out.cell (World.block_lt_of_cell? w _ hx931_0)).trans hx931_0
        replace hx931_1:=(HB.out.cell (World.block_lt_of_cell? w _ hx931_1)).trans hx931_1
        replace p931:=eq_true p931
        replace q931:=eq_true q931
        try go_wp2_with (first|((with_reducible refine gate_dst (N:=6) rfl ?_);(try (refine gate_guard (by rfl) ?_;dsimp only));refine box_event ?hg (N:=6) ?hd (cs:=#[.int .i64 0,.int .i64 0]) (t:=103) ?hr ?_;(case hd=>rfl);(case hg=>rfl);(case hr=>first|(go_simp;done)|(go_simp;rfl));intro gb932 hg w49 hbox hb;have n0_:=Z0.mk (blk_below (g:=gb929) (o:=.cells #[.int .i64 a0_0,.int .i64 a0_1,.string a0_2,.string a0_3,.slice (some ad931) l0_4.length c0_4] 55 (0,0)) (by (with_reducible repeat (first|refine zkN ?_ _|refine zkD ?_|refine zkA ?_ _));exact BK929.out) hb);have n1_:=Z0.mk (below_step (by repeat (first|(with_reducible first|exact HB.out|apply zbA|apply zbN|apply zb1|refine zbS ?_ GE929.out)|exact HB.out)) hb);have n2_:=Z0.mk (hbox);have n3_:=Z0.mk ((by rw [hg];exact (below_size (by repeat (first|(with_reducible first|exact HB.out|apply zbA|apply zbN|apply zb1|refine zbS ?_ GE929.out)|exact HB.out))) : w.heap.size≤gb932));have n4_:=Z0.mk ((by rw [hg];exact (below_size (by repeat (first|(with_reducible first|exact HB.out|apply zbA|apply zbN|apply zb1|refine zbS ?_ GE929.out)|exact HB.out))) : w.heap.size≤gb932));have n5_:=Z0.mk ((by rw [hg];exact Nat.ne_of_lt (blk_lt (g:=gb929) (o:=.cells #[.int .i64 a0_0,.int .i64 a0_1,.string a0_2,.string a0_3,.slice (some ad931) l0_4.length c0_4] 55 (0,0)) (by (with_reducible repeat (first|refine zkN ?_ _|refine zkD ?_|refine zkA ?_ _));exact BK929.out)) : gb929 ≠ gb932));have n6_:=Z0.mk ((by rw [hg];exact Nat.ne_of_gt (blk_lt (g:=gb929) (o:=.cells #[.int .i64 a0_0,.int .i64 a0_1,.string a0_2,.string a0_3,.slice (some ad931) l0_4.length c0_4] 55 (0,0)) (by (with_reducible repeat (first|refine zkN ?_ _|refine zkD ?_|refine zkA ?_ _));exact BK929.out)) : gb932 ≠ gb929));clear BK929;clear HB;have BK929:=n0_;have HB:=n1_;have BK932:=n2_;have GW932:=n3_;have GE932:=n4_;have NB929_932:=n5_;have NB932_929:=n6_;clear n0_ n1_ n2_ n3_ n4_ n5_ n6_;clear hb hbox hg;have hnb50:=NB932_929.out;have hnc50:=NB929_932.out;have hcz51_0 : w49.cell? ⟨gb932,0,none⟩=some (.int .i64 0):=(zkC BK932.out 0).trans rfl;have hcz51_1 : w49.cell? ⟨gb932,1,none⟩=some (.int .i64 0):=(zkC BK932.out 1).trans rfl;have hfz51_0:=zkF BK932.out 0;have hfz51_1:=zkF BK932.out 1))
        have n0_:Z0 (((w49.setCell ⟨gb932,0,none⟩ (.int .i64 ((rd_T103 l0_4 x5_2).f0))).setCell ⟨gb932,1,none⟩ (.int .i64 ((rd_T103 l0_4 x5_2).f1))).heap[gb929]?=some (.cells #[.int .i64 a0_0,.int .i64 a0_1,.string a0_2,.string a0_3,.slice (some ad931) l0_4.length c0_4] 55 (0,0))):=⟨by (with_reducible repeat (first|refine zkN ?_ _|refine zkD ?_|refine zkA ?_ _));refine blk_far ?_ NB929_932.out _;(with_reducible repeat (first|refine zkN ?_ _|refine zkD ?_|refine zkA ?_ _));refine blk_far ?_ NB929_932.out _;(with_reducible repeat (first|refine zkN ?_ _|refine zkD ?_|refine zkA ?_ _));exact BK929.out⟩
        have n1_:Z0 (((w49.setCell ⟨gb932,0,none⟩ (.int .i64 ((rd_T103 l0_4 x5_2).f0))).setCell ⟨gb932,1,none⟩ (.int .i64 ((rd_T103 l0_4 x5_2).f1))).heap[gb932]?=some (.cells #[.int .i64 ((rd_T103 l0_4 x5_2).f0),.int .i64 ((rd_T103 l0_4 x5_2).f1)] 103 (0,0))):=⟨by (with_reducible repeat (first|refine zkN ?_ _|refine zkD ?_|refine zkA ?_ _));refine blk_put (cs:=#[.int .i64 ((rd_T103 l0_4 x5_2).f0),.int .i64 0]) ?_ 1 _ rfl;(with_reducible repeat (first|refine zkN ?_ _|refine zkD ?_|refine zkA ?_ _));refine blk_put (cs:=#[.int .i64 0,.int .i64 0]) ?_ 0 _ rfl;(with_reducible repeat (first|refine zkN ?_ _|refine zkD ?_|refine zkA ?_ _));exact BK932.out⟩
        have n2_:Z0 (Below w.heap.size w ((w49.setCell ⟨gb932,0,none⟩ (.int .i64 ((rd_T103 l0_4 x5_2).f0))).setCell ⟨gb932,1,none⟩ (.int .i64 ((rd_T103 l0_4 x5_2).f1)))):=⟨by repeat (first|(with_reducible first|exact HB.out|apply zbA|apply zbN|apply zb1|refine zbS ?_ GE929.out|refine zbS ?_ GE932.out)|exact HB.out)⟩
        (try clear BK929)
        (try clear BK932)
        (try clear HB)
        generalize ((w49.setCell ⟨gb932,0,none⟩ (.int .i64 ((rd_T103 l0_4 x5_2).f0))).setCell ⟨gb932,1,none⟩ (.int .i64 ((rd_T103 l0_4 x5_2).f1)))=w52 at n0_ n1_ n2_ ⊢
        have BK929:=n0_
        have BK932:=n1_
        have HB:=n2_
        clear n0_ n1_ n2_
        have n0_:=Z0.mk (zkD BK929.out)
        have n1_:=Z0.mk (zkD BK932.out)
        have n2_:=Z0.mk (zb1 HB.out)
        clear BK929
        clear BK932
        clear HB
        have BK929:=n0_
        have BK932:=n1_
        have HB:=n2_
        clear n0_ n1_ n2_
        refine start_ (n:=25) (S:=fun w'=>w'.cell? ⟨gb932,0,none⟩=some (.int .i64 ((rd_T103 l0_4 x5_2).f0))∧w'.cell? ⟨gb932,1,none⟩=some (.int .i64 ((rd_T103 l0_4 x5_2).f1))) (ds:=[]) #[false,false,false,false,false,false,false,false,false,false,false,false,false,false,false,false,false,false,false,false,false,false,false,false,false] (by kernel_rfl) rfl rfl ⟨(zkC BK932.out 0).trans rfl,(zkC BK932.out 1).trans rfl⟩ (fun hHeld=>?_);refine with_tabW q7Valid.tab7 q7Valid.bits7 (fun HT_ HW_=>?_)
        generalize w52.drew=w53 at BK929 BK932 HB hHeld ⊢
        refine pure_ (i:=0) (N:=some 66) (v:=?_) (a':=?_) #[true,false,false,false,false,false,false,false,false,false,false,false,false,false,false,false,false,false,false,false,false,false,false,false,false] rfl rfl (any_of HT_.out (by kernel_rfl)) (fun _ _ _ h=>h) (Or.inl ⟨by rfl,?_⟩) ?_ ?_
        rotate_left
        ·intro w'
         go_simp
         with_reducible rfl
        rotate_left
        ·simp only [Act.put,List.setIfInBounds_toArray,List.set_cons_zero,List.set_cons_succ,i64_w,i32_w]
         rfl
        refine pure_ (i:=2) (N:=some 68) (v:=?_) (a':=?_) #[true,false,true,false,false,false,false,false,false,false,false,false,false,false,false,false,false,false,false,false,false,false,false,false,false] rfl rfl (any_of HT_.out (by kernel_rfl)) (fun _ _ _ h=>h) (Or.inl ⟨by rfl,?_⟩) ?_ ?_
        rotate_left
        ·intro w'
         go_simp
         with_reducible rfl
        rotate_left
        ·simp only [Act.put,List.setIfInBounds_toArray,List.set_cons_zero,List.set_cons_succ,i64_w,i32_w]
         rfl
        refine take_ (i:=1) (N:=some 67) (v:=?_) (a':=?_) #[true,true,true,false,false,false,false,false,false,false,false,false,false,false,false,false,false,false,false,false,false,false,false,false,false] rfl rfl (take_ofW HT_.out HW_.out (by kernel_rfl)) (fun _ _ _ h=>h) (Or.inl ⟨by rfl,?_⟩) hHeld ?_ ?_
        rotate_left
        ·rintro w' ⟨s0,s1⟩
         go_simp
         with_reducible rfl
        rotate_left
        ·simp only [Act.put,List.setIfInBounds_toArray,List.set_cons_zero,List.set_cons_succ,i64_w,i32_w]
         rfl
        refine one_ (i:=3) (N:=some 69) #[true,true,true,true,false,false,false,false,false,false,false,false,false,false,false,false,false,false,false,false,false,false,false,false,false] rfl rfl (one_of HT_.out (by kernel_rfl)) (by decide) (fun K hK=>?_)
        refine goes_ Try.func90 (by kernel_rfl) rfl #[.int .i64 a1] (by rfl) rfl rfl (by (try simp only [List.map_toArray,List.map_cons,List.map_nil]);first|done|rfl|(simp only [List.length_drop,List.length_take];rfl)) ?_
        with_reducible refine (q7TableTracks.calls a1 t933 _ A25.out).mono ?_
        rintro e w' ⟨rfl,⟨nd,rfl⟩⟩
        refine ⟨_,rfl,?_⟩
        refine hK.out _ _ ⟨(zkC BK932.out 0).trans rfl,(zkC BK932.out 1).trans rfl⟩ (fun hHeld=>?_)
        clear hK K
        refine norm_ (a':=?_) ?_ ?_
        rotate_left
        ·show Act.put _ (some 69) _=_
         simp only [Act.put,List.setIfInBounds_toArray,List.set_cons_zero,List.set_cons_succ,i64_w,i32_w]
         rfl
        refine pure_ (i:=4) (N:=some 70) (v:=?_) (a':=?_) #[true,true,true,true,true,false,false,false,false,false,false,false,false,false,false,false,false,false,false,false,false,false,false,false,false] rfl rfl (any_of HT_.out (by kernel_rfl)) (fun _ _ _ h=>h) (Or.inl ⟨by rfl,?_⟩) ?_ ?_
        rotate_left
        ·intro w'
         go_simp
         with_reducible rfl
        rotate_left
        ·simp only [Act.put,List.setIfInBounds_toArray,List.set_cons_zero,List.set_cons_succ,i64_w,i32_w]
         rfl
        refine pure_ (i:=5) (N:=some 71) (v:=?_) (a':=?_) #[true,true,true,true,true,true,false,false,false,false,false,false,false,false,false,false,false,false,false,false,false,false,false,false,false] rfl rfl (any_of HT_.out (by kernel_rfl)) (fun _ _ _ h=>h) (Or.inl ⟨by rfl,?_⟩) ?_ ?_
        rotate_left
        ·intro w'
         go_simp
         with_reducible rfl
        rotate_left
        ·simp only [Act.put,List.setIfInBounds_toArray,List.set_cons_zero,List.set_cons_succ,i64_w,i32_w]
         rfl
        refine pure_ (i:=6) (N:=some 72) (v:=?_) (a':=?_) #[true,true,true,true,true,true,true,false,false,false,false,false,false,false,false,false,false,false,false,false,false,false,false,false,false] rfl rfl (any_of HT_.out (by kernel_rfl)) (fun _ _ _ h=>h) (Or.inl ⟨by rfl,?_⟩) ?_ ?_
        rotate_left
        ·intro w'
         go_simp
         with_reducible rfl
        rotate_left
        ·simp only [Act.put,List.setIfInBounds_toArray,List.set_cons_zero,List.set_cons_succ,i64_w,i32_w]
         rfl
        refine pure_ (i:=8) (N:=some 74) (v:=?_) (a':=?_) #[true,true,true,true,true,true,true,false,true,false,false,false,false,false,false,false,false,false,false,false,false,false,false,false,false] rfl rfl (any_of HT_.out (by kernel_rfl)) (fun _ _ _ h=>h) (Or.inl ⟨by rfl,?_⟩) ?_ ?_
        rotate_left
        ·intro w'
         go_simp
         with_reducible rfl
        rotate_left
        ·simp only [Act.put,List.setIfInBounds_toArray,List.set_cons_zero,List.set_cons_succ,i64_w,i32_w]
         rfl
        refine take_ (i:=7) (N:=some 73) (v:=?_) (a':=?_) #[true,true,true,true,true,true,true,true,true,false,false,false,false,false,false,false,false,false,false,false,false,false,false,false,false] rfl rfl (take_ofW HT_.out HW_.out (by kernel_rfl)) (fun _ _ _ h=>h) (Or.inl ⟨by rfl,?_⟩) hHeld ?_ ?_
        rotate_left
        ·rintro w' ⟨s0,s1⟩
         go_simp
         with_reducible rfl
        rotate_left
        ·simp only [Act.put,List.setIfInBounds_toArray,List.set_cons_zero,List.set_cons_succ,i64_w,i32_w]
         rfl
        refine pure_ (i:=9) (N:=some 75) (v:=?_) (a':=?_) #[true,true,true,true,true,true,true,true,true,true,false,false,false,false,false,false,false,false,false,false,false,false,false,false,false] rfl rfl (any_of HT_.out (by kernel_rfl)) (fun _ _ _ h=>h) (Or.inl ⟨by rfl,?_⟩) ?_ ?_
        rotate_left
        ·intro w'
         go_simp
         with_reducible rfl
        rotate_left
        ·simp only [Act.put,List.setIfInBounds_toArray,List.set_cons_zero,List.set_cons_succ,i64_w,i32_w]
         rfl
        refine pure_ (i:=10) (N:=some 76) (v:=?_) (a':=?_) #[true,true,true,true,true,true,true,true,true,true,true,false,false,false,false,false,false,false,false,false,false,false,false,false,false] rfl rfl (any_of HT_.out (by kernel_rfl)) (fun _ _ _ h=>h) (Or.inl ⟨by rfl,?_⟩) ?_ ?_
        rotate_left
        ·intro w'
         go_simp
         with_reducible rfl
        rotate_left
        ·simp only [Act.put,List.setIfInBounds_toArray,List.set_cons_zero,List.set_cons_succ,i64_w,i32_w]
         rfl
        refine pure_ (i:=11) (N:=some 77) (v:=?_) (a':=?_) #[true,true,true,true,true,true,true,true,true,true,true,true,false,false,false,false,false,false,false,false,false,false,false,false,false] rfl rfl (any_of HT_.out (by kernel_rfl)) (fun _ _ _ h=>h) (Or.inl ⟨by rfl,?_⟩) ?_ ?_
        rotate_left
        ·intro w'
         go_simp
         with_reducible rfl
        rotate_left
        ·simp only [Act.put,List.setIfInBounds_toArray,List.set_cons_zero,List.set_cons_succ,i64_w,i32_w]
         rfl
        refine pure_ (i:=12) (N:=some 78) (v:=?_) (a':=?_) #[true,true,true,true,true,true,true,true,true,true,true,true,true,false,false,false,false,false,false,false,false,false,false,false,false] rfl rfl (any_of HT_.out (by kernel_rfl)) (fun _ _ _ h=>h) (Or.inl ⟨by rfl,?_⟩) ?_ ?_
        rotate_left
        ·intro w'
         go_simp
         with_reducible rfl
        rotate_left
        ·simp only [Act.put,List.setIfInBounds_toArray,List.set_cons_zero,List.set_cons_succ,i64_w,i32_w]
         rfl
        refine take_ (i:=13) (N:=some 79) (v:=?_) (a':=?_) #[true,true,true,true,true,true,true,true,true,true,true,true,true,true,false,false,false,false,false,false,false,false,false,false,false] rfl rfl (take_ofW HT_.out HW_.out (by kernel_rfl)) (fun _ _ _ h=>h) (Or.inl ⟨by rfl,?_⟩) hHeld ?_ ?_
        rotate_left
        ·rintro w' ⟨s0,s1⟩
         go_simp
         with_reducible rfl
        rotate_left
        ·simp only [Act.put,List.setIfInBounds_toArray,List.set_cons_zero,List.set_cons_succ,i64_w,i32_w]
         rfl
        refine pure_ (i:=14) (N:=some 80) (v:=?_) (a':=?_) #[true,true,true,true,true,true,true,true,true,true,true,true,true,true,true,false,false,false,false,false,false,false,false,false,false] rfl rfl (any_of HT_.out (by kernel_rfl)) (fun _ _ _ h=>h) (Or.inl ⟨by rfl,?_⟩) ?_ ?_
        rotate_left
        ·intro w'
         go_simp
         with_reducible rfl
        rotate_left
        ·simp only [Act.put,List.setIfInBounds_toArray,List.set_cons_zero,List.set_cons_succ,i64_w,i32_w]
         rfl
        refine pure_ (i:=15) (N:=some 81) (v:=?_) (a':=?_) #[true,true,true,true,true,true,true,true,true,true,true,true,true,true,true,true,false,false,false,false,false,false,false,false,false] rfl rfl (any_of HT_.out (by kernel_rfl)) (fun _ _ _ h=>h) (Or.inl ⟨by rfl,?_⟩) ?_ ?_
        rotate_left
        ·intro w'
         go_simp
         with_reducible rfl
        rotate_left
        ·simp only [Act.put,List.setIfInBounds_toArray,List.set_cons_zero,List.set_cons_succ,i64_w,i32_w]
         rfl
        refine pure_ (i:=16) (N:=some 82) (v:=?_) (a':=?_) #[true,true,true,true,true,true,true,true,true,true,true,true,true,true,true,true,true,false,false,false,false,false,false,false,false] rfl rfl (any_of HT_.out (by kernel_rfl)) (fun _ _ _ h=>h) (Or.inl ⟨by rfl,?_⟩) ?_ ?_
        rotate_left
        ·intro w'
         go_simp
         with_reducible rfl
        rotate_left
        ·simp only [Act.put,List.setIfInBounds_toArray,List.set_cons_zero,List.set_cons_succ,i64_w,i32_w]
         rfl
        refine pure_ (i:=17) (N:=some 83) (v:=?_) (a':=?_) #[true,true,true,true,true,true,true,true,true,true,true,true,true,true,true,true,true,true,false,false,false,false,false,false,false] rfl rfl (any_of HT_.out (by kernel_rfl)) (fun _ _ _ h=>h) (Or.inl ⟨by rfl,?_⟩) ?_ ?_
        rotate_left
        ·intro w'
         go_simp
         with_reducible rfl
        rotate_left
        ·simp only [Act.put,List.setIfInBounds_toArray,List.set_cons_zero,List.set_cons_succ,i64_w,i32_w]
         rfl
        refine pure_ (i:=19) (N:=some 85) (v:=?_) (a':=?_) #[true,true,true,true,true,true,true,true,true,true,true,true,true,true,true,true,true,true,false,true,false,false,false,false,false] rfl rfl (any_of HT_.out (by kernel_rfl)) (fun _ _ _ h=>h) (Or.inl ⟨by rfl,?_⟩) ?_ ?_
        rotate_left
        ·intro w'
         go_simp
         with_reducible rfl
        rotate_left
        ·simp only [Act.put,List.setIfInBounds_toArray,List.set_cons_zero,List.set_cons_succ,i64_w,i32_w]
         rfl
        refine pure_ (i:=20) (N:=some 86) (v:=?_) (a':=?_) #[true,true,true,true,true,true,true,true,true,true,true,true,true,true,true,true,true,true,false,true,true,false,false,false,false] rfl rfl (any_of HT_.out (by kernel_rfl)) (fun _ _ _ h=>h) (Or.inl ⟨by rfl,?_⟩) ?_ ?_
        rotate_left
        ·intro w'
         go_simp
         with_reducible rfl
        rotate_left
        ·simp only [Act.put,List.setIfInBounds_toArray,List.set_cons_zero,List.set_cons_succ,i64_w,i32_w]
         rfl
        refine take_ (i:=18) (N:=some 84) (v:=?_) (a':=?_) #[true,true,true,true,true,true,true,true,true,true,true,true,true,true,true,true,true,true,true,true,true,false,false,false,false] rfl rfl (take_ofW HT_.out HW_.out (by kernel_rfl)) (fun _ _ _ h=>h) (Or.inl ⟨by rfl,?_⟩) hHeld ?_ ?_
        rotate_left
        ·rintro w' ⟨s0,s1⟩
         go_simp
         with_reducible rfl
        rotate_left
        ·simp only [Act.put,List.setIfInBounds_toArray,List.set_cons_zero,List.set_cons_succ,i64_w,i32_w]
         rfl
        refine take_ (i:=21) (N:=some 87) (v:=?_) (a':=?_) #[true,true,true,true,true,true,true,true,true,true,true,true,true,true,true,true,true,true,true,true,true,true,false,false,false] rfl rfl (take_ofW HT_.out HW_.out (by kernel_rfl)) (fun _ _ _ h=>h) (Or.inl ⟨by rfl,?_⟩) hHeld ?_ ?_
        rotate_left
        ·rintro w' ⟨s0,s1⟩
         go_simp
         with_reducible rfl
        rotate_left
        ·simp only [Act.put,List.setIfInBounds_toArray,List.set_cons_zero,List.set_cons_succ,i64_w,i32_w]
         rfl
        refine pure_ (i:=22) (N:=some 88) (v:=?_) (a':=?_) #[true,true,true,true,true,true,true,true,true,true,true,true,true,true,true,true,true,true,true,true,true,true,true,false,false] rfl rfl (any_of HT_.out (by kernel_rfl)) (fun _ _ _ h=>h) (Or.inl ⟨by rfl,?_⟩) ?_ ?_
        rotate_left
        ·intro w'
         go_simp
         with_reducible rfl
        rotate_left
        ·simp only [Act.put,List.setIfInBounds_toArray,List.set_cons_zero,List.set_cons_succ,i64_w,i32_w]
         rfl
        refine pure_ (i:=23) (N:=some 89) (v:=?_) (a':=?_) #[true,true,true,true,true,true,true,true,true,true,true,true,true,true,true,true,true,true,true,true,true,true,true,true,false] rfl rfl (any_of HT_.out (by kernel_rfl)) (fun _ _ _ h=>h) (Or.inl ⟨by rfl,?_⟩) ?_ ?_
        rotate_left
        ·intro w'
         go_simp
         with_reducible rfl
        rotate_left
        ·simp only [Act.put,List.setIfInBounds_toArray,List.set_cons_zero,List.set_cons_succ,i64_w,i32_w]
         rfl
        refine pure_ (i:=24) (N:=some 90) (v:=?_) (a':=?_) #[true,true,true,true,true,true,true,true,true,true,true,true,true,true,true,true,true,true,true,true,true,true,true,true,true] rfl rfl (any_of HT_.out (by kernel_rfl)) (fun _ _ _ h=>h) (Or.inl ⟨by rfl,?_⟩) ?_ ?_
        rotate_left
        ·intro w'
         go_simp
         with_reducible rfl
        rotate_left
        ·simp only [Act.put,List.setIfInBounds_toArray,List.set_cons_zero,List.set_cons_succ,i64_w,i32_w]
         rfl
        refine done_ (done_of HT_.out (by kernel_rfl)) ?_
        try go_wp2
        go_ret
        exact ⟨by first|rfl|(simp [errW_none,errW_some] <;> rfl)|(simp [*,errW_none,errW_some] <;> rfl),by repeat (first|(with_reducible first|exact HB.out|apply zbA|apply zbN|apply zb1|refine zbS ?_ GE929.out|refine zbS ?_ GE932.out)|exact HB.out)⟩
       rw [if_neg c47] at H
       have c47b0 : decide ((wrap64 (a1 - ((rd_T103 l0_4 x5_2).f0))) < ((rd_T103 l0_4 x5_2).f1))=false:=decide_eq_false c47
       clear c47
       have H':=Z0.mk H
       clear H
       have hcz54_0 : wr.cell? ⟨gb929,0,none⟩=some (.int .i64 a0_0):=(zkC BK929.out 0).trans rfl
       have hcz54_1 : wr.cell? ⟨gb929,1,none⟩=some (.int .i64 a0_1):=(zkC BK929.out 1).trans rfl
       have hcz54_2 : wr.cell? ⟨gb929,2,none⟩=some (.string a0_2):=(zkC BK929.out 2).trans rfl
       have hcz54_3 : wr.cell? ⟨gb929,3,none⟩=some (.string a0_3):=(zkC BK929.out 3).trans rfl
       have hcz54_4 : wr.cell? ⟨gb929,4,none⟩=some (.slice A0_4 l0_4.length c0_4):=(zkC BK929.out 4).trans rfl
       have hfz54_0:=zkF BK929.out 0
       have hfz54_1:=zkF BK929.out 1
       have hfz54_2:=zkF BK929.out 2
       have hfz54_3:=zkF BK929.out 3
       have hfz54_4:=zkF BK929.out 4
       have p931 : 0≤(x5_2:Int):=of_decide_eq_true (by first|(with_reducible assumption)|assumption)
       have q931 : x5_2 < (l0_4.length:Int):=of_decide_eq_true (by first|(with_reducible assumption)|assumption)
       obtain ⟨ad931,e931,hx931_0,hx931_1⟩:=at_T103 HR0_4.out x5_2 p931 q931
       cases e931
       replace hx931_0:=(HB.out.cell (World.block_lt_of_cell? w _ hx931_0)).trans hx931_0
       replace hx931_1:=(HB.out.cell (World.block_lt_of_cell? w _ hx931_1)).trans hx931_1
       replace p931:=eq_true p931
       replace q931:=eq_true q931
       try go_wp2_with (first|((with_reducible refine gate_dst (N:=6) rfl ?_);(try (refine gate_guard (by rfl) ?_;dsimp only));refine box_event ?hg (N:=6) ?hd (cs:=#[.int .i64 0,.int .i64 0]) (t:=103) ?hr ?_;(case hd=>rfl);(case hg=>rfl);(case hr=>first|(go_simp;done)|(go_simp;rfl));intro gb932 hg w55 hbox hb;have n0_:=Z0.mk (blk_below (g:=gb929) (o:=.cells #[.int .i64 a0_0,.int .i64 a0_1,.string a0_2,.string a0_3,.slice (some ad931) l0_4.length c0_4] 55 (0,0)) (by (with_reducible repeat (first|refine zkN ?_ _|refine zkD ?_|refine zkA ?_ _));exact BK929.out) hb);have n1_:=Z0.mk (below_step (by repeat (first|(with_reducible first|exact HB.out|apply zbA|apply zbN|apply zb1|refine zbS ?_ GE929.out)|exact HB.out)) hb);have n2_:=Z0.mk (hbox);have n3_:=Z0.mk ((by rw [hg];exact (below_size (by repeat (first|(with_reducible first|exact HB.out|apply zbA|apply zbN|apply zb1|refine zbS ?_ GE929.out)|exact HB.out))) : w.heap.size≤gb932));have n4_:=Z0.mk ((by rw [hg];exact (below_size (by repeat (first|(with_reducible first|exact HB.out|apply zbA|apply zbN|apply zb1|refine zbS ?_ GE929.out)|exact HB.out))) : w.heap.size≤gb932));have n5_:=Z0.mk ((by rw [hg];exact Nat.ne_of_lt (blk_lt (g:=gb929) (o:=.cells #[.int .i64 a0_0,.int .i64 a0_1,.string a0_2,.string a0_3,.slice (some ad931) l0_4.length c0_4] 55 (0,0)) (by (with_reducible repeat (first|refine zkN ?_ _|refine zkD ?_|refine zkA ?_ _));exact BK929.out)) : gb929 ≠ gb932));have n6_:=Z0.mk ((by rw [hg];exact Nat.ne_of_gt (blk_lt (g:=gb929) (o:=.cells #[.int .i64 a0_0,.int .i64 a0_1,.string a0_2,.string a0_3,.slice (some ad931) l0_4.length c0_4] 55 (0,0)) (by (with_reducible repeat (first|refine zkN ?_ _|refine zkD ?_|refine zkA ?_ _));exact BK929.out)) : gb932 ≠ gb929));clear BK929;clear HB;have BK929:=n0_;have HB:=n1_;have BK932:=n2_;have GW932:=n3_;have GE932:=n4_;have NB929_932:=n5_;have NB932_929:=n6_;clear n0_ n1_ n2_ n3_ n4_ n5_ n6_;clear hb hbox hg;have hnb56:=NB932_929.out;have hnc56:=NB929_932.out;have hcz57_0 : w55.cell? ⟨gb932,0,none⟩=some (.int .i64 0):=(zkC BK932.out 0).trans rfl;have hcz57_1 : w55.cell? ⟨gb932,1,none⟩=some (.int .i64 0):=(zkC BK932.out 1).trans rfl;have hfz57_0:=zkF BK932.out 0;have hfz57_1:=zkF BK932.out 1))
       have n0_:Z0 (((w55.setCell ⟨gb932,0,none⟩ (.int .i64 ((rd_T103 l0_4 x5_2).f0))).setCell ⟨gb932,1,none⟩ (.int .i64 ((rd_T103 l0_4 x5_2).f1))).heap[gb929]?=some (.cells #[.int .i64 a0_0,.int .i64 a0_1,.string a0_2,.string a0_3,.slice (some ad931) l0_4.length c0_4] 55 (0,0))):=⟨by (with_reducible repeat (first|refine zkN ?_ _|refine zkD ?_|refine zkA ?_ _));refine blk_far ?_ NB929_932.out _;(with_reducible repeat (first|refine zkN ?_ _|refine zkD ?_|refine zkA ?_ _));refine blk_far ?_ NB929_932.out _;(with_reducible repeat (first|refine zkN ?_ _|refine zkD ?_|refine zkA ?_ _));exact BK929.out⟩
       have n1_:Z0 (((w55.setCell ⟨gb932,0,none⟩ (.int .i64 ((rd_T103 l0_4 x5_2).f0))).setCell ⟨gb932,1,none⟩ (.int .i64 ((rd_T103 l0_4 x5_2).f1))).heap[gb932]?=some (.cells #[.int .i64 ((rd_T103 l0_4 x5_2).f0),.int .i64 ((rd_T103 l0_4 x5_2).f1)] 103 (0,0))):=⟨by (with_reducible repeat (first|refine zkN ?_ _|refine zkD ?_|refine zkA ?_ _));refine blk_put (cs:=#[.int .i64 ((rd_T103 l0_4 x5_2).f0),.int .i64 0]) ?_ 1 _ rfl;(with_reducible repeat (first|refine zkN ?_ _|refine zkD ?_|refine zkA ?_ _));refine blk_put (cs:=#[.int .i64 0,.int .i64 0]) ?_ 0 _ rfl;(with_reducible repeat (first|refine zkN ?_ _|refine zkD ?_|refine zkA ?_ _));exact BK932.out⟩
       have n2_:Z0 (Below w.heap.size w ((w55.setCell ⟨gb932,0,none⟩ (.int .i64 ((rd_T103 l0_4 x5_2).f0))).setCell ⟨gb932,1,none⟩ (.int .i64 ((rd_T103 l0_4 x5_2).f1)))):=⟨by repeat (first|(with_reducible first|exact HB.out|apply zbA|apply zbN|apply zb1|refine zbS ?_ GE929.out|refine zbS ?_ GE932.out)|exact HB.out)⟩
       (try clear BK929)
       (try clear BK932)
       (try clear HB)
       generalize ((w55.setCell ⟨gb932,0,none⟩ (.int .i64 ((rd_T103 l0_4 x5_2).f0))).setCell ⟨gb932,1,none⟩ (.int .i64 ((rd_T103 l0_4 x5_2).f1)))=w58 at n0_ n1_ n2_ ⊢
       have BK929:=n0_
       have BK932:=n1_
       have HB:=n2_
       clear n0_ n1_ n2_
       have n0_:=Z0.mk (zkD BK929.out)
       have n1_:=Z0.mk (zkD BK932.out)
       have n2_:=Z0.mk (zb1 HB.out)
       clear BK929
       clear BK932
       clear HB
       have BK929:=n0_
       have BK932:=n1_
       have HB:=n2_
       clear n0_ n1_ n2_
       refine start_ (n:=25) (S:=fun w'=>w'.cell? ⟨gb932,0,none⟩=some (.int .i64 ((rd_T103 l0_4 x5_2).f0))∧w'.cell? ⟨gb932,1,none⟩=some (.int .i64 ((rd_T103 l0_4 x5_2).f1))) (ds:=[]) #[false,false,false,false,false,false,false,false,false,false,false,false,false,false,false,false,false,false,false,false,false,false,false,false,false] (by kernel_rfl) rfl rfl ⟨(zkC BK932.out 0).trans rfl,(zkC BK932.out 1).trans rfl⟩ (fun hHeld=>?_);refine with_tabW q7Valid.tab7 q7Valid.bits7 (fun HT_ HW_=>?_)
       generalize w58.drew=w59 at BK929 BK932 HB hHeld ⊢
       refine pure_ (i:=0) (N:=some 66) (v:=?_) (a':=?_) #[true,false,false,false,false,false,false,false,false,false,false,false,false,false,false,false,false,false,false,false,false,false,false,false,false] rfl rfl (any_of HT_.out (by kernel_rfl)) (fun _ _ _ h=>h) (Or.inl ⟨by rfl,?_⟩) ?_ ?_
       rotate_left
       ·intro w'
        go_simp
        with_reducible rfl
       rotate_left
       ·simp only [Act.put,List.setIfInBounds_toArray,List.set_cons_zero,List.set_cons_succ,i64_w,i32_w]
        rfl
       refine pure_ (i:=2) (N:=some 68) (v:=?_) (a':=?_) #[true,false,true,false,false,false,false,false,false,false,false,false,false,false,false,false,false,false,false,false,false,false,false,false,false] rfl rfl (any_of HT_.out (by kernel_rfl)) (fun _ _ _ h=>h) (Or.inl ⟨by rfl,?_⟩) ?_ ?_
       rotate_left
       ·intro w'
        go_simp
        with_reducible rfl
       rotate_left
       ·simp only [Act.put,List.setIfInBounds_toArray,List.set_cons_zero,List.set_cons_succ,i64_w,i32_w]
        rfl
       refine take_ (i:=1) (N:=some 67) (v:=?_) (a':=?_) #[true,true,true,false,false,false,false,false,false,false,false,false,false,false,false,false,false,false,false,false,false,false,false,false,false] rfl rfl (take_ofW HT_.out HW_.out (by kernel_rfl)) (fun _ _ _ h=>h) (Or.inl ⟨by rfl,?_⟩) hHeld ?_ ?_
       rotate_left
       ·rintro w' ⟨s0,s1⟩
        go_simp
        with_reducible rfl
       rotate_left
       ·simp only [Act.put,List.setIfInBounds_toArray,List.set_cons_zero,List.set_cons_succ,i64_w,i32_w]
        rfl
       refine one_ (i:=3) (N:=some 69) #[true,true,true,true,false,false,false,false,false,false,false,false,false,false,false,false,false,false,false,false,false,false,false,false,false] rfl rfl (one_of HT_.out (by kernel_rfl)) (by decide) (fun K hK=>?_)
       refine goes_ Try.func90 (by kernel_rfl) rfl #[.int .i64 a1] (by rfl) rfl rfl (by (try simp only [List.map_toArray,List.map_cons,List.map_nil]);first|done|rfl|(simp only [List.length_drop,List.length_take];rfl)) ?_
       with_reducible refine (q7TableTracks.calls a1 t933 _ A25.out).mono ?_
       rintro e w' ⟨rfl,⟨nd,rfl⟩⟩
       refine ⟨_,rfl,?_⟩
       refine hK.out _ _ ⟨(zkC BK932.out 0).trans rfl,(zkC BK932.out 1).trans rfl⟩ (fun hHeld=>?_)
       clear hK K
       refine norm_ (a':=?_) ?_ ?_
       rotate_left
       ·show Act.put _ (some 69) _=_
        simp only [Act.put,List.setIfInBounds_toArray,List.set_cons_zero,List.set_cons_succ,i64_w,i32_w]
        rfl
       refine pure_ (i:=4) (N:=some 70) (v:=?_) (a':=?_) #[true,true,true,true,true,false,false,false,false,false,false,false,false,false,false,false,false,false,false,false,false,false,false,false,false] rfl rfl (any_of HT_.out (by kernel_rfl)) (fun _ _ _ h=>h) (Or.inl ⟨by rfl,?_⟩) ?_ ?_
       rotate_left
       ·intro w'
        go_simp
        with_reducible rfl
       rotate_left
       ·simp only [Act.put,List.setIfInBounds_toArray,List.set_cons_zero,List.set_cons_succ,i64_w,i32_w]
        rfl
       refine pure_ (i:=5) (N:=some 71) (v:=?_) (a':=?_) #[true,true,true,true,true,true,false,false,false,false,false,false,false,false,false,false,false,false,false,false,false,false,false,false,false] rfl rfl (any_of HT_.out (by kernel_rfl)) (fun _ _ _ h=>h) (Or.inl ⟨by rfl,?_⟩) ?_ ?_
       rotate_left
       ·intro w'
        go_simp
        with_reducible rfl
       rotate_left
       ·simp only [Act.put,List.setIfInBounds_toArray,List.set_cons_zero,List.set_cons_succ,i64_w,i32_w]
        rfl
       refine pure_ (i:=6) (N:=some 72) (v:=?_) (a':=?_) #[true,true,true,true,true,true,true,false,false,false,false,false,false,false,false,false,false,false,false,false,false,false,false,false,false] rfl rfl (any_of HT_.out (by kernel_rfl)) (fun _ _ _ h=>h) (Or.inl ⟨by rfl,?_⟩) ?_ ?_
       rotate_left
       ·intro w'
        go_simp
        with_reducible rfl
       rotate_left
       ·simp only [Act.put,List.setIfInBounds_toArray,List.set_cons_zero,List.set_cons_succ,i64_w,i32_w]
        rfl
       refine pure_ (i:=8) (N:=some 74) (v:=?_) (a':=?_) #[true,true,true,true,true,true,true,false,true,false,false,false,false,false,false,false,false,false,false,false,false,false,false,false,false] rfl rfl (any_of HT_.out (by kernel_rfl)) (fun _ _ _ h=>h) (Or.inl ⟨by rfl,?_⟩) ?_ ?_
       rotate_left
       ·intro w'
        go_simp
        with_reducible rfl
       rotate_left
       ·simp only [Act.put,List.setIfInBounds_toArray,List.set_cons_zero,List.set_cons_succ,i64_w,i32_w]
        rfl
       refine take_ (i:=7) (N:=some 73) (v:=?_) (a':=?_) #[true,true,true,true,true,true,true,true,true,false,false,false,false,false,false,false,false,false,false,false,false,false,false,false,false] rfl rfl (take_ofW HT_.out HW_.out (by kernel_rfl)) (fun _ _ _ h=>h) (Or.inl ⟨by rfl,?_⟩) hHeld ?_ ?_
       rotate_left
       ·rintro w' ⟨s0,s1⟩
        go_simp
        with_reducible rfl
       rotate_left
       ·simp only [Act.put,List.setIfInBounds_toArray,List.set_cons_zero,List.set_cons_succ,i64_w,i32_w]
        rfl
       refine pure_ (i:=9) (N:=some 75) (v:=?_) (a':=?_) #[true,true,true,true,true,true,true,true,true,true,false,false,false,false,false,false,false,false,false,false,false,false,false,false,false] rfl rfl (any_of HT_.out (by kernel_rfl)) (fun _ _ _ h=>h) (Or.inl ⟨by rfl,?_⟩) ?_ ?_
       rotate_left
       ·intro w'
        go_simp
        with_reducible rfl
       rotate_left
       ·simp only [Act.put,List.setIfInBounds_toArray,List.set_cons_zero,List.set_cons_succ,i64_w,i32_w]
        rfl
       refine pure_ (i:=10) (N:=some 76) (v:=?_) (a':=?_) #[true,true,true,true,true,true,true,true,true,true,true,false,false,false,false,false,false,false,false,false,false,false,false,false,false] rfl rfl (any_of HT_.out (by kernel_rfl)) (fun _ _ _ h=>h) (Or.inl ⟨by rfl,?_⟩) ?_ ?_
       rotate_left
       ·intro w'
        go_simp
        with_reducible rfl
       rotate_left
       ·simp only [Act.put,List.setIfInBounds_toArray,List.set_cons_zero,List.set_cons_succ,i64_w,i32_w]
        rfl
       refine pure_ (i:=11) (N:=some 77) (v:=?_) (a':=?_) #[true,true,true,true,true,true,true,true,true,true,true,true,false,false,false,false,false,false,false,false,false,false,false,false,false] rfl rfl (any_of HT_.out (by kernel_rfl)) (fun _ _ _ h=>h) (Or.inl ⟨by rfl,?_⟩) ?_ ?_
       rotate_left
       ·intro w'
        go_simp
        with_reducible rfl
       rotate_left
       ·simp only [Act.put,List.setIfInBounds_toArray,List.set_cons_zero,List.set_cons_succ,i64_w,i32_w]
        rfl
       refine pure_ (i:=12) (N:=some 78) (v:=?_) (a':=?_) #[true,true,true,true,true,true,true,true,true,true,true,true,true,false,false,false,false,false,false,false,false,false,false,false,false] rfl rfl (any_of HT_.out (by kernel_rfl)) (fun _ _ _ h=>h) (Or.inl ⟨by rfl,?_⟩) ?_ ?_
       rotate_left
       ·intro w'
        go_simp
        with_reducible rfl
       rotate_left
       ·simp only [Act.put,List.setIfInBounds_toArray,List.set_cons_zero,List.set_cons_succ,i64_w,i32_w]
        rfl
       refine take_ (i:=13) (N:=some 79) (v:=?_) (a':=?_) #[true,true,true,true,true,true,true,true,true,true,true,true,true,true,false,false,false,false,false,false,false,false,false,false,false] rfl rfl (take_ofW HT_.out HW_.out (by kernel_rfl)) (fun _ _ _ h=>h) (Or.inl ⟨by rfl,?_⟩) hHeld ?_ ?_
       rotate_left
       ·rintro w' ⟨s0,s1⟩
        go_simp
        with_reducible rfl
       rotate_left
       ·simp only [Act.put,List.setIfInBounds_toArray,List.set_cons_zero,List.set_cons_succ,i64_w,i32_w]
        rfl
       refine pure_ (i:=14) (N:=some 80) (v:=?_) (a':=?_) #[true,true,true,true,true,true,true,true,true,true,true,true,true,true,true,false,false,false,false,false,false,false,false,false,false] rfl rfl (any_of HT_.out (by kernel_rfl)) (fun _ _ _ h=>h) (Or.inl ⟨by rfl,?_⟩) ?_ ?_
       rotate_left
       ·intro w'
        go_simp
        with_reducible rfl
       rotate_left
       ·simp only [Act.put,List.setIfInBounds_toArray,List.set_cons_zero,List.set_cons_succ,i64_w,i32_w]
        rfl
       refine pure_ (i:=15) (N:=some 81) (v:=?_) (a':=?_) #[true,true,true,true,true,true,true,true,true,true,true,true,true,true,true,true,false,false,false,false,false,false,false,false,false] rfl rfl (any_of HT_.out (by kernel_rfl)) (fun _ _ _ h=>h) (Or.inl ⟨by rfl,?_⟩) ?_ ?_
       rotate_left
       ·intro w'
        go_simp
        with_reducible rfl
       rotate_left
       ·simp only [Act.put,List.setIfInBounds_toArray,List.set_cons_zero,List.set_cons_succ,i64_w,i32_w]
        rfl
       refine pure_ (i:=16) (N:=some 82) (v:=?_) (a':=?_) #[true,true,true,true,true,true,true,true,true,true,true,true,true,true,true,true,true,false,false,false,false,false,false,false,false] rfl rfl (any_of HT_.out (by kernel_rfl)) (fun _ _ _ h=>h) (Or.inl ⟨by rfl,?_⟩) ?_ ?_
       rotate_left
       ·intro w'
        go_simp
        with_reducible rfl
       rotate_left
       ·simp only [Act.put,List.setIfInBounds_toArray,List.set_cons_zero,List.set_cons_succ,i64_w,i32_w]
        rfl
       refine pure_ (i:=17) (N:=some 83) (v:=?_) (a':=?_) #[true,true,true,true,true,true,true,true,true,true,true,true,true,true,true,true,true,true,false,false,false,false,false,false,false] rfl rfl (any_of HT_.out (by kernel_rfl)) (fun _ _ _ h=>h) (Or.inl ⟨by rfl,?_⟩) ?_ ?_
       rotate_left
       ·intro w'
        go_simp
        with_reducible rfl
       rotate_left
       ·simp only [Act.put,List.setIfInBounds_toArray,List.set_cons_zero,List.set_cons_succ,i64_w,i32_w]
        rfl
       refine pure_ (i:=19) (N:=some 85) (v:=?_) (a':=?_) #[true,true,true,true,true,true,true,true,true,true,true,true,true,true,true,true,true,true,false,true,false,false,false,false,false] rfl rfl (any_of HT_.out (by kernel_rfl)) (fun _ _ _ h=>h) (Or.inl ⟨by rfl,?_⟩) ?_ ?_
       rotate_left
       ·intro w'
        go_simp
        with_reducible rfl
       rotate_left
       ·simp only [Act.put,List.setIfInBounds_toArray,List.set_cons_zero,List.set_cons_succ,i64_w,i32_w]
        rfl
       refine pure_ (i:=20) (N:=some 86) (v:=?_) (a':=?_) #[true,true,true,true,true,true,true,true,true,true,true,true,true,true,true,true,true,true,false,true,true,false,false,false,false] rfl rfl (any_of HT_.out (by kernel_rfl)) (fun _ _ _ h=>h) (Or.inl ⟨by rfl,?_⟩) ?_ ?_
       rotate_left
       ·intro w'
        go_simp
        with_reducible rfl
       rotate_left
       ·simp only [Act.put,List.setIfInBounds_toArray,List.set_cons_zero,List.set_cons_succ,i64_w,i32_w]
        rfl
       refine take_ (i:=18) (N:=some 84) (v:=?_) (a':=?_) #[true,true,true,true,true,true,true,true,true,true,true,true,true,true,true,true,true,true,true,true,true,false,false,false,false] rfl rfl (take_ofW HT_.out HW_.out (by kernel_rfl)) (fun _ _ _ h=>h) (Or.inl ⟨by rfl,?_⟩) hHeld ?_ ?_
       rotate_left
       ·rintro w' ⟨s0,s1⟩
        go_simp
        with_reducible rfl
       rotate_left
       ·simp only [Act.put,List.setIfInBounds_toArray,List.set_cons_zero,List.set_cons_succ,i64_w,i32_w]
        rfl
       refine take_ (i:=21) (N:=some 87) (v:=?_) (a':=?_) #[true,true,true,true,true,true,true,true,true,true,true,true,true,true,true,true,true,true,true,true,true,true,false,false,false] rfl rfl (take_ofW HT_.out HW_.out (by kernel_rfl)) (fun _ _ _ h=>h) (Or.inl ⟨by rfl,?_⟩) hHeld ?_ ?_
       rotate_left
       ·rintro w' ⟨s0,s1⟩
        go_simp
        with_reducible rfl
       rotate_left
       ·simp only [Act.put,List.setIfInBounds_toArray,List.set_cons_zero,List.set_cons_succ,i64_w,i32_w]
        rfl
       refine pure_ (i:=22) (N:=some 88) (v:=?_) (a':=?_) #[true,true,true,true,true,true,true,true,true,true,true,true,true,true,true,true,true,true,true,true,true,true,true,false,false] rfl rfl (any_of HT_.out (by kernel_rfl)) (fun _ _ _ h=>h) (Or.inl ⟨by rfl,?_⟩) ?_ ?_
       rotate_left
       ·intro w'
        go_simp
        with_reducible rfl
       rotate_left
       ·simp only [Act.put,List.setIfInBounds_toArray,List.set_cons_zero,List.set_cons_succ,i64_w,i32_w]
        rfl
       refine pure_ (i:=23) (N:=some 89) (v:=?_) (a':=?_) #[true,true,true,true,true,true,true,true,true,true,true,true,true,true,true,true,true,true,true,true,true,true,true,true,false] rfl rfl (any_of HT_.out (by kernel_rfl)) (fun _ _ _ h=>h) (Or.inl ⟨by rfl,?_⟩) ?_ ?_
       rotate_left
       ·intro w'
        go_simp
        with_reducible rfl
       rotate_left
       ·simp only [Act.put,List.setIfInBounds_toArray,List.set_cons_zero,List.set_cons_succ,i64_w,i32_w]
        rfl
       refine pure_ (i:=24) (N:=some 90) (v:=?_) (a':=?_) #[true,true,true,true,true,true,true,true,true,true,true,true,true,true,true,true,true,true,true,true,true,true,true,true,true] rfl rfl (any_of HT_.out (by kernel_rfl)) (fun _ _ _ h=>h) (Or.inl ⟨by rfl,?_⟩) ?_ ?_
       rotate_left
       ·intro w'
        go_simp
        with_reducible rfl
       rotate_left
       ·simp only [Act.put,List.setIfInBounds_toArray,List.set_cons_zero,List.set_cons_succ,i64_w,i32_w]
        rfl
       refine done_ (done_of HT_.out (by kernel_rfl)) ?_
       try go_wp2
       go_roundg k2
       case measure=>have:=HJ2.out;have:=HK2.out;omega
       case rel=>exact ⟨(wrap64 (x5_2 + 1)),(by first|rfl|(simp;done)|(simp [*];done)),H',⟨by have:=HJ2.out;have:=HK2.out;omega⟩,⟨by (with_reducible repeat (first|refine zkN ?_ _|refine zkD ?_|refine zkA ?_ _));exact BK929.out⟩,⟨by repeat (first|(with_reducible first|exact HB.out|apply zbA|apply zbN|apply zb1|refine zbS ?_ GE929.out|refine zbS ?_ GE932.out)|exact HB.out)⟩⟩
      rw [if_neg c24] at H
      exact absurd H (by simp)
     rw [if_neg c23] at H
     have c23b0 : decide (x5_2 < (l0_4.length:Int))=false:=decide_eq_false c23
     clear c23
     replace H:=Option.bind_eq_some_iff.mp H
     obtain ⟨t934,A600,H⟩:=H
     replace H:((q5Same.f k2 l0_4 t934).bind fun t937=>(if t937=true then ((q5Disjoint.f k2 l0_4).bind fun t938=>(some t938)) else (some false)))=some r:=H
     have A60:=Z0.mk A600
     clear A600
     replace H:=Option.bind_eq_some_iff.mp H
     obtain ⟨t937,A610,H⟩:=H
     replace H:(if t937=true then ((q5Disjoint.f k2 l0_4).bind fun t938=>(some t938)) else (some false))=some r:=H
     have A61:=Z0.mk A610
     clear A610
     by_cases c62 : t937=true
     ·subst c62
      have H1:((q5Disjoint.f k2 l0_4).bind fun t938=>(some t938))=some r:=by rw [if_pos rfl] at H;exact H
      clear H
      have H:=H1
      clear H1
      replace H:=Option.bind_eq_some_iff.mp H
      obtain ⟨t938,A630,H⟩:=H
      replace H:(some t938)=some r:=H
      have A63:=Z0.mk A630
      clear A630
      obtain rfl:=Option.some.inj H
      have hcz64_0 : wr.cell? ⟨gb929,0,none⟩=some (.int .i64 a0_0):=(zkC BK929.out 0).trans rfl
      have hcz64_1 : wr.cell? ⟨gb929,1,none⟩=some (.int .i64 a0_1):=(zkC BK929.out 1).trans rfl
      have hcz64_2 : wr.cell? ⟨gb929,2,none⟩=some (.string a0_2):=(zkC BK929.out 2).trans rfl
      have hcz64_3 : wr.cell? ⟨gb929,3,none⟩=some (.string a0_3):=(zkC BK929.out 3).trans rfl
      have hcz64_4 : wr.cell? ⟨gb929,4,none⟩=some (.slice A0_4 l0_4.length c0_4):=(zkC BK929.out 4).trans rfl
      have hfz64_0:=zkF BK929.out 0
      have hfz64_1:=zkF BK929.out 1
      have hfz64_2:=zkF BK929.out 2
      have hfz64_3:=zkF BK929.out 3
      have hfz64_4:=zkF BK929.out 4
      try go_wp2
      have n0_:=Z0.mk (zkD BK929.out)
      have n1_:=Z0.mk (zb1 HB.out)
      clear BK929
      clear HB
      have BK929:=n0_
      have HB:=n1_
      clear n0_ n1_
      refine start_ (n:=12) (S:=fun w'=>w'.cell? ⟨gb929,0,none⟩=some (.int .i64 a0_0)∧w'.cell? ⟨gb929,1,none⟩=some (.int .i64 a0_1)∧w'.cell? ⟨gb929,2,none⟩=some (.string a0_2)∧w'.cell? ⟨gb929,3,none⟩=some (.string a0_3)∧w'.cell? ⟨gb929,4,none⟩=some (.slice A0_4 l0_4.length c0_4)) (ds:=[]) #[false,false,false,false,false,false,false,false,false,false,false,false] (by kernel_rfl) rfl rfl ⟨(zkC BK929.out 0).trans rfl,(zkC BK929.out 1).trans rfl,(zkC BK929.out 2).trans rfl,(zkC BK929.out 3).trans rfl,(zkC BK929.out 4).trans rfl⟩ (fun hHeld=>?_);refine with_tabW q7Valid.tab9 q7Valid.bits9 (fun HT_ HW_=>?_)
      generalize wr.drew=w65 at BK929 HB hHeld ⊢
      refine pure_ (i:=0) (N:=some 91) (v:=?_) (a':=?_) #[true,false,false,false,false,false,false,false,false,false,false,false] rfl rfl (any_of HT_.out (by kernel_rfl)) (fun _ _ _ h=>h) (Or.inl ⟨by rfl,?_⟩) ?_ ?_
      rotate_left
      ·intro w'
       go_simp
       with_reducible rfl
      rotate_left
      ·simp only [Act.put,List.setIfInBounds_toArray,List.set_cons_zero,List.set_cons_succ,i64_w,i32_w]
       rfl
      refine pure_ (i:=2) (N:=some 93) (v:=?_) (a':=?_) #[true,false,true,false,false,false,false,false,false,false,false,false] rfl rfl (any_of HT_.out (by kernel_rfl)) (fun _ _ _ h=>h) (Or.inl ⟨by rfl,?_⟩) ?_ ?_
      rotate_left
      ·intro w'
       go_simp
       with_reducible rfl
      rotate_left
      ·simp only [Act.put,List.setIfInBounds_toArray,List.set_cons_zero,List.set_cons_succ,i64_w,i32_w]
       rfl
      refine take_ (i:=1) (N:=some 92) (v:=?_) (a':=?_) #[true,true,true,false,false,false,false,false,false,false,false,false] rfl rfl (take_ofW HT_.out HW_.out (by kernel_rfl)) (fun _ _ _ h=>h) (Or.inl ⟨by rfl,?_⟩) hHeld ?_ ?_
      rotate_left
      ·rintro w' ⟨s0,s1,s2,s3,s4⟩
       go_simp
       with_reducible rfl
      rotate_left
      ·simp only [Act.put,List.setIfInBounds_toArray,List.set_cons_zero,List.set_cons_succ,i64_w,i32_w]
       rfl
      refine take_ (i:=3) (N:=some 94) (v:=?_) (a':=?_) #[true,true,true,true,false,false,false,false,false,false,false,false] rfl rfl (take_ofW HT_.out HW_.out (by kernel_rfl)) (fun _ _ _ h=>h) (Or.inl ⟨by rfl,?_⟩) hHeld ?_ ?_
      rotate_left
      ·rintro w' ⟨s0,s1,s2,s3,s4⟩
       go_simp
       with_reducible rfl
      rotate_left
      ·simp only [Act.put,List.setIfInBounds_toArray,List.set_cons_zero,List.set_cons_succ,i64_w,i32_w]
       rfl
      refine one_ (i:=4) (N:=some 95) #[true,true,true,true,true,false,false,false,false,false,false,false] rfl rfl (one_of HT_.out (by kernel_rfl)) (by decide) (fun K hK=>?_)
      refine goes_ Try.func39 (by kernel_rfl) rfl #[.slice A0_4 l0_4.length c0_4] (by rfl) rfl rfl (by (try simp only [List.map_toArray,List.map_cons,List.map_nil]);first|done|rfl|(simp only [List.length_drop,List.length_take];rfl)) ?_
      with_reducible refine (q5Join.calls k2 _ _ l0_4 t934 _ ?side1 ?side2 A60.out).mono ?_
      (case side1=>repeat (first|exact (Kd.C_below HR0_4.out HB.out)|(with_reducible refine Kd.C_alloc ?_ _)|(with_reducible refine Kd.C_drewN ?_ _)|(with_reducible refine Kd.C_drew ?_)))
      (case side2=>exact HC0_4.out)
      rintro e w66 ⟨v935,rfl,ho0,hb⟩
      refine ⟨_,rfl,?_⟩
      have n0_:=Z0.mk (Kd.R_lower ho0 (below_size (by repeat (first|(with_reducible first|exact HB.out|apply zbA|apply zbN|apply zb1|refine zbS ?_ GE929.out)|exact HB.out))))
      have n1_:=Z0.mk (blk_below (g:=gb929) (o:=.cells #[.int .i64 a0_0,.int .i64 a0_1,.string a0_2,.string a0_3,.slice A0_4 l0_4.length c0_4] 55 (0,0)) (by (with_reducible repeat (first|refine zkN ?_ _|refine zkD ?_|refine zkA ?_ _));exact BK929.out) hb)
      have n2_:=Z0.mk (below_step (by repeat (first|(with_reducible first|exact HB.out|apply zbA|apply zbN|apply zb1|refine zbS ?_ GE929.out)|exact HB.out)) hb)
      clear BK929
      clear HB
      have HO936:=n0_
      have BK929:=n1_
      have HB:=n2_
      clear n0_ n1_ n2_
      (try clear hb)
      (try clear hb2)
      (try clear hk)
      (try clear hi)
      (try clear ho0)
      obtain ⟨Ao67,co67,eo67⟩:=Kd.R_slice HO936.out
      (first|subst eo67|(injection eo67 with f1_ f2_ f3_;have f4_:=f1_.symm;have f5_:=f3_.symm;clear f1_ f2_ f3_;subst f4_;subst f5_))
      refine hK.out _ _ ⟨(zkC BK929.out 0).trans rfl,(zkC BK929.out 1).trans rfl,(zkC BK929.out 2).trans rfl,(zkC BK929.out 3).trans rfl,(zkC BK929.out 4).trans rfl⟩ (fun hHeld=>?_)
      clear hK K
      refine norm_ (a':=?_) ?_ ?_
      rotate_left
      ·show Act.put _ (some 95) _=_
       simp only [Act.put,List.setIfInBounds_toArray,List.set_cons_zero,List.set_cons_succ,i64_w,i32_w]
       rfl
      refine one_ (i:=5) (N:=some 96) #[true,true,true,true,true,true,false,false,false,false,false,false] rfl rfl (one_of HT_.out (by kernel_rfl)) (by decide) (fun K hK=>?_)
      refine goes_ Try.func37 (by kernel_rfl) rfl #[.slice A0_4 l0_4.length c0_4,.slice Ao67 t934.length co67] (by rfl) rfl rfl (by (try simp only [List.map_toArray,List.map_cons,List.map_nil]);first|done|rfl|(simp only [List.length_drop,List.length_take];rfl)) ?_
      with_reducible refine (q5Same.calls k2 _ _ l0_4 _ _ t934 true _ ?side1 ?side2 ?side3 ?side4 A61.out).mono ?_
      (case side1=>repeat (first|exact (Kd.C_below HR0_4.out HB.out)|(with_reducible refine Kd.C_alloc ?_ _)|(with_reducible refine Kd.C_drewN ?_ _)|(with_reducible refine Kd.C_drew ?_)))
      (case side2=>exact HC0_4.out)
      (case side3=>repeat (first|exact (Kd.R_reads' HO936.out).2.2|(with_reducible refine Kd.C_alloc ?_ _)|(with_reducible refine Kd.C_drewN ?_ _)|(with_reducible refine Kd.C_drew ?_)))
      (case side4=>exact (Kd.R_reads' HO936.out).2.1)
      rintro e w' ⟨rfl,⟨nd,rfl⟩⟩
      refine ⟨_,rfl,?_⟩
      refine hK.out _ _ ⟨(zkC BK929.out 0).trans rfl,(zkC BK929.out 1).trans rfl,(zkC BK929.out 2).trans rfl,(zkC BK929.out 3).trans rfl,(zkC BK929.out 4).trans rfl⟩ (fun hHeld=>?_)
      clear hK K
      refine norm_ (a':=?_) ?_ ?_
      rotate_left
      ·show Act.put _ (some 96) _=_
       simp only [Act.put,List.setIfInBounds_toArray,List.set_cons_zero,List.set_cons_succ,i64_w,i32_w]
       rfl
      refine pure_ (i:=6) (N:=some 97) (v:=?_) (a':=?_) #[true,true,true,true,true,true,true,false,false,false,false,false] rfl rfl (any_of HT_.out (by kernel_rfl)) (fun _ _ _ h=>h) (Or.inl ⟨by rfl,?_⟩) ?_ ?_
      rotate_left
      ·intro w'
       go_simp
       with_reducible rfl
      rotate_left
      ·simp only [Act.put,List.setIfInBounds_toArray,List.set_cons_zero,List.set_cons_succ,i64_w,i32_w]
       rfl
      refine pure_ (i:=7) (N:=some 98) (v:=?_) (a':=?_) #[true,true,true,true,true,true,true,true,false,false,false,false] rfl rfl (any_of HT_.out (by kernel_rfl)) (fun _ _ _ h=>h) (Or.inl ⟨by rfl,?_⟩) ?_ ?_
      rotate_left
      ·intro w'
       go_simp
       with_reducible rfl
      rotate_left
      ·simp only [Act.put,List.setIfInBounds_toArray,List.set_cons_zero,List.set_cons_succ,i64_w,i32_w]
       rfl
      refine take_ (i:=8) (N:=some 99) (v:=?_) (a':=?_) #[true,true,true,true,true,true,true,true,true,false,false,false] rfl rfl (take_ofW HT_.out HW_.out (by kernel_rfl)) (fun _ _ _ h=>h) (Or.inl ⟨by rfl,?_⟩) hHeld ?_ ?_
      rotate_left
      ·rintro w' ⟨s0,s1,s2,s3,s4⟩
       go_simp
       with_reducible rfl
      rotate_left
      ·simp only [Act.put,List.setIfInBounds_toArray,List.set_cons_zero,List.set_cons_succ,i64_w,i32_w]
       rfl
      refine one_ (i:=9) (N:=some 100) #[true,true,true,true,true,true,true,true,true,true,false,false] rfl rfl (one_of HT_.out (by kernel_rfl)) (by decide) (fun K hK=>?_)
      refine goes_ Try.func57 (by kernel_rfl) rfl #[.slice A0_4 l0_4.length c0_4] (by rfl) rfl rfl (by (try simp only [List.map_toArray,List.map_cons,List.map_nil]);first|done|rfl|(simp only [List.length_drop,List.length_take];rfl)) ?_
      with_reducible refine (q5Disjoint.calls k2 _ _ l0_4 t938 _ ?side1 ?side2 A63.out).mono ?_
      (case side1=>repeat (first|exact (Kd.C_below HR0_4.out (by repeat (first|(with_reducible first|exact HB.out|apply zbA|apply zbN|apply zb1|refine zbS ?_ GE929.out)|exact HB.out)))|(with_reducible refine Kd.C_alloc ?_ _)|(with_reducible refine Kd.C_drewN ?_ _)|(with_reducible refine Kd.C_drew ?_)))
      (case side2=>exact HC0_4.out)
      rintro e w68 ⟨rfl,hb⟩
      refine ⟨_,rfl,?_⟩
      have n0_:=Z0.mk (Kd.R_below (by (with_reducible repeat (first|apply Kd.R_alloc|apply Kd.R_drewN|apply Kd.R_drew));exact HO936.out) hb)
      have n1_:=Z0.mk (blk_below (g:=gb929) (o:=.cells #[.int .i64 a0_0,.int .i64 a0_1,.string a0_2,.string a0_3,.slice A0_4 l0_4.length c0_4] 55 (0,0)) (by (with_reducible repeat (first|refine zkN ?_ _|refine zkD ?_|refine zkA ?_ _));exact BK929.out) hb)
      have n2_:=Z0.mk (below_step (by repeat (first|(with_reducible first|exact HB.out|apply zbA|apply zbN|apply zb1|refine zbS ?_ GE929.out)|exact HB.out)) hb)
      clear HO936
      clear BK929
      clear HB
      have HO936:=n0_
      have BK929:=n1_
      have HB:=n2_
      clear n0_ n1_ n2_
      (try clear hb)
      (try clear hb2)
      (try clear hk)
      (try clear hi)
      refine hK.out _ _ ⟨(zkC BK929.out 0).trans rfl,(zkC BK929.out 1).trans rfl,(zkC BK929.out 2).trans rfl,(zkC BK929.out 3).trans rfl,(zkC BK929.out 4).trans rfl⟩ (fun hHeld=>?_)
      clear hK K
      refine norm_ (a':=?_) ?_ ?_
      rotate_left
      ·show Act.put _ (some 100) _=_
       simp only [Act.put,List.setIfInBounds_toArray,List.set_cons_zero,List.set_cons_succ,i64_w,i32_w]
       rfl
      refine pure_ (i:=10) (N:=some 101) (v:=?_) (a':=?_) #[true,true,true,true,true,true,true,true,true,true,true,false] rfl rfl (any_of HT_.out (by kernel_rfl)) (fun _ _ _ h=>h) (Or.inl ⟨by rfl,?_⟩) ?_ ?_
      rotate_left
      ·intro w'
       go_simp
       with_reducible rfl
      rotate_left
      ·simp only [Act.put,List.setIfInBounds_toArray,List.set_cons_zero,List.set_cons_succ,i64_w,i32_w]
       rfl
      refine pure_ (i:=11) (N:=some 4) (v:=?_) (a':=?_) #[true,true,true,true,true,true,true,true,true,true,true,true] rfl rfl (any_of HT_.out (by kernel_rfl)) (fun _ _ _ h=>h) (Or.inl ⟨by rfl,?_⟩) ?_ ?_
      rotate_left
      ·intro w'
       go_simp
       with_reducible rfl
      rotate_left
      ·simp only [Act.put,List.setIfInBounds_toArray,List.set_cons_zero,List.set_cons_succ,i64_w,i32_w]
       rfl
      refine done_ (done_of HT_.out (by kernel_rfl)) ?_
      try go_wp2
      go_ret
      exact ⟨by first|rfl|(simp [errW_none,errW_some] <;> rfl)|(simp [*,errW_none,errW_some] <;> rfl),by repeat (first|(with_reducible first|exact HB.out|apply zbA|apply zbN|apply zb1|refine zbS ?_ GE929.out)|exact HB.out)⟩
     replace c62:=Bool.eq_false_iff.mpr c62
     subst c62
     have H1:(some false)=some r:=by rw [if_neg (show ¬ (false=true) by decide)] at H;exact H
     clear H
     have H:=H1
     clear H1
     obtain rfl:=Option.some.inj H
     have hcz69_0 : wr.cell? ⟨gb929,0,none⟩=some (.int .i64 a0_0):=(zkC BK929.out 0).trans rfl
     have hcz69_1 : wr.cell? ⟨gb929,1,none⟩=some (.int .i64 a0_1):=(zkC BK929.out 1).trans rfl
     have hcz69_2 : wr.cell? ⟨gb929,2,none⟩=some (.string a0_2):=(zkC BK929.out 2).trans rfl
     have hcz69_3 : wr.cell? ⟨gb929,3,none⟩=some (.string a0_3):=(zkC BK929.out 3).trans rfl
     have hcz69_4 : wr.cell? ⟨gb929,4,none⟩=some (.slice A0_4 l0_4.length c0_4):=(zkC BK929.out 4).trans rfl
     have hfz69_0:=zkF BK929.out 0
     have hfz69_1:=zkF BK929.out 1
     have hfz69_2:=zkF BK929.out 2
     have hfz69_3:=zkF BK929.out 3
     have hfz69_4:=zkF BK929.out 4
     try go_wp2
     have n0_:=Z0.mk (zkD BK929.out)
     have n1_:=Z0.mk (zb1 HB.out)
     clear BK929
     clear HB
     have BK929:=n0_
     have HB:=n1_
     clear n0_ n1_
     refine start_ (n:=12) (S:=fun w'=>w'.cell? ⟨gb929,0,none⟩=some (.int .i64 a0_0)∧w'.cell? ⟨gb929,1,none⟩=some (.int .i64 a0_1)∧w'.cell? ⟨gb929,2,none⟩=some (.string a0_2)∧w'.cell? ⟨gb929,3,none⟩=some (.string a0_3)∧w'.cell? ⟨gb929,4,none⟩=some (.slice A0_4 l0_4.length c0_4)) (ds:=[]) #[false,false,false,false,false,false,false,false,false,false,false,false] (by kernel_rfl) rfl rfl ⟨(zkC BK929.out 0).trans rfl,(zkC BK929.out 1).trans rfl,(zkC BK929.out 2).trans rfl,(zkC BK929.out 3).trans rfl,(zkC BK929.out 4).trans rfl⟩ (fun hHeld=>?_);refine with_tabW q7Valid.tab9 q7Valid.bits9 (fun HT_ HW_=>?_)
     generalize wr.drew=w70 at BK929 HB hHeld ⊢
     refine pure_ (i:=0) (N:=some 91) (v:=?_) (a':=?_) #[true,false,false,false,false,false,false,false,false,false,false,false] rfl rfl (any_of HT_.out (by kernel_rfl)) (fun _ _ _ h=>h) (Or.inl ⟨by rfl,?_⟩) ?_ ?_
     rotate_left
     ·intro w'
      go_simp
      with_reducible rfl
     rotate_left
     ·simp only [Act.put,List.setIfInBounds_toArray,List.set_cons_zero,List.set_cons_succ,i64_w,i32_w]
      rfl
     refine pure_ (i:=2) (N:=some 93) (v:=?_) (a':=?_) #[true,false,true,false,false,false,false,false,false,false,false,false] rfl rfl (any_of HT_.out (by kernel_rfl)) (fun _ _ _ h=>h) (Or.inl ⟨by rfl,?_⟩) ?_ ?_
     rotate_left
     ·intro w'
      go_simp
      with_reducible rfl
     rotate_left
     ·simp only [Act.put,List.setIfInBounds_toArray,List.set_cons_zero,List.set_cons_succ,i64_w,i32_w]
      rfl
     refine take_ (i:=1) (N:=some 92) (v:=?_) (a':=?_) #[true,true,true,false,false,false,false,false,false,false,false,false] rfl rfl (take_ofW HT_.out HW_.out (by kernel_rfl)) (fun _ _ _ h=>h) (Or.inl ⟨by rfl,?_⟩) hHeld ?_ ?_
     rotate_left
     ·rintro w' ⟨s0,s1,s2,s3,s4⟩
      go_simp
      with_reducible rfl
     rotate_left
     ·simp only [Act.put,List.setIfInBounds_toArray,List.set_cons_zero,List.set_cons_succ,i64_w,i32_w]
      rfl
     refine take_ (i:=3) (N:=some 94) (v:=?_) (a':=?_) #[true,true,true,true,false,false,false,false,false,false,false,false] rfl rfl (take_ofW HT_.out HW_.out (by kernel_rfl)) (fun _ _ _ h=>h) (Or.inl ⟨by rfl,?_⟩) hHeld ?_ ?_
     rotate_left
     ·rintro w' ⟨s0,s1,s2,s3,s4⟩
      go_simp
      with_reducible rfl
     rotate_left
     ·simp only [Act.put,List.setIfInBounds_toArray,List.set_cons_zero,List.set_cons_succ,i64_w,i32_w]
      rfl
     refine one_ (i:=4) (N:=some 95) #[true,true,true,true,true,false,false,false,false,false,false,false] rfl rfl (one_of HT_.out (by kernel_rfl)) (by decide) (fun K hK=>?_)
     refine goes_ Try.func39 (by kernel_rfl) rfl #[.slice A0_4 l0_4.length c0_4] (by rfl) rfl rfl (by (try simp only [List.map_toArray,List.map_cons,List.map_nil]);first|done|rfl|(simp only [List.length_drop,List.length_take];rfl)) ?_
     with_reducible refine (q5Join.calls k2 _ _ l0_4 t934 _ ?side1 ?side2 A60.out).mono ?_
     (case side1=>repeat (first|exact (Kd.C_below HR0_4.out HB.out)|(with_reducible refine Kd.C_alloc ?_ _)|(with_reducible refine Kd.C_drewN ?_ _)|(with_reducible refine Kd.C_drew ?_)))
     (case side2=>exact HC0_4.out)
     rintro e w71 ⟨v935,rfl,ho0,hb⟩
     refine ⟨_,rfl,?_⟩
     have n0_:=Z0.mk (Kd.R_lower ho0 (below_size (by repeat (first|(with_reducible first|exact HB.out|apply zbA|apply zbN|apply zb1|refine zbS ?_ GE929.out)|exact HB.out))))
     have n1_:=Z0.mk (blk_below (g:=gb929) (o:=.cells #[.int .i64 a0_0,.int .i64 a0_1,.string a0_2,.string a0_3,.slice A0_4 l0_4.length c0_4] 55 (0,0)) (by (with_reducible repeat (first|refine zkN ?_ _|refine zkD ?_|refine zkA ?_ _));exact BK929.out) hb)
     have n2_:=Z0.mk (below_step (by repeat (first|(with_reducible first|exact HB.out|apply zbA|apply zbN|apply zb1|refine zbS ?_ GE929.out)|exact HB.out)) hb)
     clear BK929
     clear HB
     have HO936:=n0_
     have BK929:=n1_
     have HB:=n2_
     clear n0_ n1_ n2_
     (try clear hb)
     (try clear hb2)
     (try clear hk)
     (try clear hi)
     (try clear ho0)
     obtain ⟨Ao72,co72,eo72⟩:=Kd.R_slice HO936.out
     (first|subst eo72|(injection eo72 with f1_ f2_ f3_;have f4_:=f1_.symm;have f5_:=f3_.symm;clear f1_ f2_ f3_;subst f4_;subst f5_))
     refine hK.out _ _ ⟨(zkC BK929.out 0).trans rfl,(zkC BK929.out 1).trans rfl,(zkC BK929.out 2).trans rfl,(zkC BK929.out 3).trans rfl,(zkC BK929.out 4).trans rfl⟩ (fun hHeld=>?_)
     clear hK K
     refine norm_ (a':=?_) ?_ ?_
     rotate_left
     ·show Act.put _ (some 95) _=_
      simp only [Act.put,List.setIfInBounds_toArray,List.set_cons_zero,List.set_cons_succ,i64_w,i32_w]
      rfl
     refine one_ (i:=5) (N:=some 96) #[true,true,true,true,true,true,false,false,false,false,false,false] rfl rfl (one_of HT_.out (by kernel_rfl)) (by decide) (fun K hK=>?_)
     refine goes_ Try.func37 (by kernel_rfl) rfl #[.slice A0_4 l0_4.length c0_4,.slice Ao72 t934.length co72] (by rfl) rfl rfl (by (try simp only [List.map_toArray,List.map_cons,List.map_nil]);first|done|rfl|(simp only [List.length_drop,List.length_take];rfl)) ?_
     with_reducible refine (q5Same.calls k2 _ _ l0_4 _ _ t934 false _ ?side1 ?side2 ?side3 ?side4 A61.out).mono ?_
     (case side1=>repeat (first|exact (Kd.C_below HR0_4.out HB.out)|(with_reducible refine Kd.C_alloc ?_ _)|(with_reducible refine Kd.C_drewN ?_ _)|(with_reducible refine Kd.C_drew ?_)))
     (case side2=>exact HC0_4.out)
     (case side3=>repeat (first|exact (Kd.R_reads' HO936.out).2.2|(with_reducible refine Kd.C_alloc ?_ _)|(with_reducible refine Kd.C_drewN ?_ _)|(with_reducible refine Kd.C_drew ?_)))
     (case side4=>exact (Kd.R_reads' HO936.out).2.1)
     rintro e w' ⟨rfl,⟨nd,rfl⟩⟩
     refine ⟨_,rfl,?_⟩
     refine hK.out _ _ ⟨(zkC BK929.out 0).trans rfl,(zkC BK929.out 1).trans rfl,(zkC BK929.out 2).trans rfl,(zkC BK929.out 3).trans rfl,(zkC BK929.out 4).trans rfl⟩ (fun hHeld=>?_)
     clear hK K
     refine norm_ (a':=?_) ?_ ?_
     rotate_left
     ·show Act.put _ (some 96) _=_
      simp only [Act.put,List.setIfInBounds_toArray,List.set_cons_zero,List.set_cons_succ,i64_w,i32_w]
      rfl
     refine pure_ (i:=6) (N:=some 97) (v:=?_) (a':=?_) #[true,true,true,true,true,true,true,false,false,false,false,false] rfl rfl (any_of HT_.out (by kernel_rfl)) (fun _ _ _ h=>h) (Or.inl ⟨by rfl,?_⟩) ?_ ?_
     rotate_left
     ·intro w'
      go_simp
      with_reducible rfl
     rotate_left
     ·simp only [Act.put,List.setIfInBounds_toArray,List.set_cons_zero,List.set_cons_succ,i64_w,i32_w]
      rfl
     refine pure_ (i:=7) (N:=some 98) (v:=undef) (a':=?_) #[true,true,true,true,true,true,true,true,false,false,false,false] rfl rfl (any_of HT_.out (by kernel_rfl)) (fun _ _ _ h=>h) (Or.inr ⟨by rfl,rfl⟩) ?_ ?_
     rotate_left
     ·simp only [Act.put,List.setIfInBounds_toArray,List.set_cons_zero,List.set_cons_succ,i64_w,i32_w]
      rfl
     refine pure_ (i:=8) (N:=some 99) (v:=undef) (a':=?_) #[true,true,true,true,true,true,true,true,true,false,false,false] rfl rfl (any_of HT_.out (by kernel_rfl)) (fun _ _ _ h=>h) (Or.inr ⟨by rfl,rfl⟩) ?_ ?_
     rotate_left
     ·simp only [Act.put,List.setIfInBounds_toArray,List.set_cons_zero,List.set_cons_succ,i64_w,i32_w]
      rfl
     refine pure_ (i:=9) (N:=some 100) (v:=undef) (a':=?_) #[true,true,true,true,true,true,true,true,true,true,false,false] rfl rfl (any_of HT_.out (by kernel_rfl)) (fun _ _ _ h=>h) (Or.inr ⟨by rfl,rfl⟩) ?_ ?_
     rotate_left
     ·simp only [Act.put,List.setIfInBounds_toArray,List.set_cons_zero,List.set_cons_succ,i64_w,i32_w]
      rfl
     refine pure_ (i:=10) (N:=some 101) (v:=?_) (a':=?_) #[true,true,true,true,true,true,true,true,true,true,true,false] rfl rfl (any_of HT_.out (by kernel_rfl)) (fun _ _ _ h=>h) (Or.inl ⟨by rfl,?_⟩) ?_ ?_
     rotate_left
     ·intro w'
      go_simp
      with_reducible rfl
     rotate_left
     ·simp only [Act.put,List.setIfInBounds_toArray,List.set_cons_zero,List.set_cons_succ,i64_w,i32_w]
      rfl
     refine pure_ (i:=11) (N:=some 4) (v:=?_) (a':=?_) #[true,true,true,true,true,true,true,true,true,true,true,true] rfl rfl (any_of HT_.out (by kernel_rfl)) (fun _ _ _ h=>h) (Or.inl ⟨by rfl,?_⟩) ?_ ?_
     rotate_left
     ·intro w'
      go_simp
      with_reducible rfl
     rotate_left
     ·simp only [Act.put,List.setIfInBounds_toArray,List.set_cons_zero,List.set_cons_succ,i64_w,i32_w]
      rfl
     refine done_ (done_of HT_.out (by kernel_rfl)) ?_
     try go_wp2
     go_ret
     exact ⟨by first|rfl|(simp [errW_none,errW_some] <;> rfl)|(simp [*,errW_none,errW_some] <;> rfl),by repeat (first|(with_reducible first|exact HB.out|apply zbA|apply zbN|apply zb1|refine zbS ?_ GE929.out)|exact HB.out)⟩
end Go.Proofs.Ytegefemkmdlmaaa.P
