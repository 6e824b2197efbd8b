import Derived.Test.YtegefemkmdlmaaaF0
namespace Go.Proofs.Ytegefemkmdlmaaa.P
open Go.RowKit Go.Proofs.YtegefemkmdlmaaaW.PrintWords Go.Proofs.YtegefemkmdlmaaaW.PrintLast Go.Proofs.YtegefemkmdlmaaaW.PrintMore
attribute [local go_sem] max2_int min2_int max_two min_two max_three min_three max_four min_four
set_option linter.unusedVariables false
set_option linter.unusedSimpArgs false
def q5holds.f (a0_0:Int) (a0_1:Int) (a1:Int):Option (Bool):=if a0_0 < 0 then (if a0_1 ≥ 1 then (some (decide (a1 < (wrap64 (a0_0 + a0_1))))) else (some false)) else (if a0_1 ≥ 1 then (if a1 ≥ a0_0 then (some (decide ((wrap64 (a1 - a0_0)) < a0_1))) else (some false)) else (some false))
set_option maxHeartbeats 8000000 in
set_option maxRecDepth 100000 in
theorem q5holds.calls (a0_0:Int) (a0_1:Int) (a1:Int) (r:Bool) (w:World) (h : q5holds.f a0_0 a0_1 a1=some r) :
  Calls Try.prog 122 #[.agg #[.int .i64 a0_0,.int .i64 a0_1],.int .i64 a1] w fun e w'=>e=.returned (.bool r)∧Below w.heap.size w w':=by
 have hu103:=Try.underlying103
 have HB:=Z0.mk (Below.refl w.heap.size w)
 have H:(if a0_0 < 0 then (if a0_1 ≥ 1 then (some (decide (a1 < (wrap64 (a0_0 + a0_1))))) else (some false)) else (if a0_1 ≥ 1 then (if a1 ≥ a0_0 then (some (decide ((wrap64 (a1 - a0_0)) < a0_1))) else (some false)) else (some false)))=some r:=h
 clear h
 by_cases c3 : a0_0 < 0
 ·rw [if_pos c3] at H
  have c3b0 : decide (a0_0 < 0)=true:=decide_eq_true c3
  clear c3
  by_cases c4 : a0_1 ≥ 1
  ·rw [if_pos c4] at H
   have c4b0 : decide (1≤a0_1)=true:=decide_eq_true c4
   clear c4
   obtain rfl:=Option.some.inj H
   go_enter Try.func122,Try.ntmps122
   go_wp2_with (first|((with_reducible refine gate_dst (N:=2) rfl ?_);refine box_event ?hg (N:=2) ?hd (cs:=#[.int .i64 a0_0,.int .i64 a0_1]) (t:=103) ?hr ?_;(case hd=>rfl);(case hg=>rfl);(case hr=>first|(go_simp;done)|(go_simp;rfl));intro gb230 hg w5 hbox hb;have n0_:=Z0.mk (below_step (by repeat (first|(with_reducible first|exact HB.out|apply zbA|apply zbN|apply zb1)|exact HB.out)) hb);have n1_:=Z0.mk (hbox);have n2_:=Z0.mk ((by rw [hg];exact (below_size (by repeat (first|(with_reducible first|exact HB.out|apply zbA|apply zbN|apply zb1)|exact HB.out))) : w.heap.size≤gb230));have n3_:=Z0.mk ((by rw [hg];exact (below_size (by repeat (first|(with_reducible first|exact HB.out|apply zbA|apply zbN|apply zb1)|exact HB.out))) : w.heap.size≤gb230));clear HB;have HB:=n0_;have BK230:=n1_;have GW230:=n2_;have GE230:=n3_;clear n0_ n1_ n2_ n3_;clear hb hbox hg;have hcz6_0 : w5.cell? ⟨gb230,0,none⟩=some (.int .i64 a0_0):=(zkC BK230.out 0).trans rfl;have hcz6_1 : w5.cell? ⟨gb230,1,none⟩=some (.int .i64 a0_1):=(zkC BK230.out 1).trans rfl;have hfz6_0:=zkF BK230.out 0;have hfz6_1:=zkF BK230.out 1))
   go_ret
   exact ⟨by first|rfl|(simp [errW_none,errW_some] <;> rfl)|(simp [*,errW_none,errW_some] <;> rfl),by repeat (first|(with_reducible first|exact HB.out|apply zbA|apply zbN|apply zb1|refine zbS ?_ GE230.out)|exact HB.out)⟩
  rw [if_neg c4] at H
  have c4b0 : decide (1≤a0_1)=false:=decide_eq_false c4
  clear c4
  obtain rfl:=Option.some.inj H
  go_enter Try.func122,Try.ntmps122
  go_wp2_with (first|((with_reducible refine gate_dst (N:=2) rfl ?_);refine box_event ?hg (N:=2) ?hd (cs:=#[.int .i64 a0_0,.int .i64 a0_1]) (t:=103) ?hr ?_;(case hd=>rfl);(case hg=>rfl);(case hr=>first|(go_simp;done)|(go_simp;rfl));intro gb230 hg w7 hbox hb;have n0_:=Z0.mk (below_step (by repeat (first|(with_reducible first|exact HB.out|apply zbA|apply zbN|apply zb1)|exact HB.out)) hb);have n1_:=Z0.mk (hbox);have n2_:=Z0.mk ((by rw [hg];exact (below_size (by repeat (first|(with_reducible first|exact HB.out|apply zbA|apply zbN|apply zb1)|exact HB.out))) : w.heap.size≤gb230));have n3_:=Z0.mk ((by rw [hg];exact (below_size (by repeat (first|(with_reducible first|exact HB.out|apply zbA|apply zbN|apply zb1)|exact HB.out))) : w.heap.size≤gb230));clear HB;have HB:=n0_;have BK230:=n1_;have GW230:=n2_;have GE230:=n3_;clear n0_ n1_ n2_ n3_;clear hb hbox hg;have hcz8_0 : w7.cell? ⟨gb230,0,none⟩=some (.int .i64 a0_0):=(zkC BK230.out 0).trans rfl;have hcz8_1 : w7.cell? ⟨gb230,1,none⟩=some (.int .i64 a0_1):=(zkC BK230.out 1).trans rfl;have hfz8_0:=zkF BK230.out 0;have hfz8_1:=zkF BK230.out 1))
  go_ret
  exact ⟨by first|rfl|(simp [errW_none,errW_some] <;> rfl)|(simp [*,errW_none,errW_some] <;> rfl),by repeat (first|(with_reducible first|exact HB.out|apply zbA|apply zbN|apply zb1|refine zbS ?_ GE230.out)|exact HB.out)⟩
 rw [if_neg c3] at H
 have c3b0 : decide (a0_0 < 0)=false:=decide_eq_false c3
 clear c3
 by_cases c9 : a0_1 ≥ 1
 ·rw [if_pos c9] at H
  have c9b0 : decide (1≤a0_1)=true:=decide_eq_true c9
  clear c9
  by_cases c10 : a1 ≥ a0_0
  ·rw [if_pos c10] at H
   have c10b0 : decide (a0_0≤a1)=true:=decide_eq_true c10
   clear c10
   obtain rfl:=Option.some.inj H
   go_enter Try.func122,Try.ntmps122
   go_wp2_with (first|((with_reducible refine gate_dst (N:=2) rfl ?_);refine box_event ?hg (N:=2) ?hd (cs:=#[.int .i64 a0_0,.int .i64 a0_1]) (t:=103) ?hr ?_;(case hd=>rfl);(case hg=>rfl);(case hr=>first|(go_simp;done)|(go_simp;rfl));intro gb230 hg w11 hbox hb;have n0_:=Z0.mk (below_step (by repeat (first|(with_reducible first|exact HB.out|apply zbA|apply zbN|apply zb1)|exact HB.out)) hb);have n1_:=Z0.mk (hbox);have n2_:=Z0.mk ((by rw [hg];exact (below_size (by repeat (first|(with_reducible first|exact HB.out|apply zbA|apply zbN|apply zb1)|exact HB.out))) : w.heap.size≤gb230));have n3_:=Z0.mk ((by rw [hg];exact (below_size (by repeat (first|(with_reducible first|exact HB.out|apply zbA|apply zbN|apply zb1)|exact HB.out))) : w.heap.size≤gb230));clear HB;have HB:=n0_;have BK230:=n1_;have GW230:=n2_;have GE230:=n3_;clear n0_ n1_ n2_ n3_;clear hb hbox hg;have hcz12_0 : w11.cell? ⟨gb230,0,none⟩=some (.int .i64 a0_0):=(zkC BK230.out 0).trans rfl;have hcz12_1 : w11.cell? ⟨gb230,1,none⟩=some (.int .i64 a0_1):=(zkC BK230.out 1).trans rfl;have hfz12_0:=zkF BK230.out 0;have hfz12_1:=zkF BK230.out 1))
   go_ret
   exact ⟨by first|rfl|(simp [errW_none,errW_some] <;> rfl)|(simp [*,errW_none,errW_some] <;> rfl),by repeat (first|(with_reducible first|exact HB.out|apply zbA|apply zbN|apply zb1|refine zbS ?_ GE230.out)|exact HB.out)⟩
  rw [if_neg c10] at H
  have c10b0 : decide (a0_0≤a1)=false:=decide_eq_false c10
  clear c10
  obtain rfl:=Option.some.inj H
  go_enter Try.func122,Try.ntmps122
  go_wp2_with (first|((with_reducible refine gate_dst (N:=2) rfl ?_);refine box_event ?hg (N:=2) ?hd (cs:=#[.int .i64 a0_0,.int .i64 a0_1]) (t:=103) ?hr ?_;(case hd=>rfl);(case hg=>rfl);(case hr=>first|(go_simp;done)|(go_simp;rfl));intro gb230 hg w13 hbox hb;have n0_:=Z0.mk (below_step (by repeat (first|(with_reducible first|exact HB.out|apply zbA|apply zbN|apply zb1)|exact HB.out)) hb);have n1_:=Z0.mk (hbox);have n2_:=Z0.mk ((by rw [hg];exact (below_size (by repeat (first|(with_reducible first|exact HB.out|apply zbA|apply zbN|apply zb1)|exact HB.out))) : w.heap.size≤gb230));have n3_:=Z0.mk ((by rw [hg];exact (below_size (by repeat (first|(with_reducible first|exact HB.out|apply zbA|apply zbN|apply zb1)|exact HB.out))) : w.heap.size≤gb230));clear HB;have HB:=n0_;have BK230:=n1_;have GW230:=n2_;have GE230:=n3_;clear n0_ n1_ n2_ n3_;clear hb hbox hg;have hcz14_0 : w13.cell? ⟨gb230,0,none⟩=some (.int .i64 a0_0):=(zkC BK230.out 0).trans rfl;have hcz14_1 : w13.cell? ⟨gb230,1,none⟩=some (.int .i64 a0_1):=(zkC BK230.out 1).trans rfl;have hfz14_0:=zkF BK230.out 0;have hfz14_1:=zkF BK230.out 1))
  go_ret
  exact ⟨by first|rfl|(simp [errW_none,errW_some] <;> rfl)|(simp [*,errW_none,errW_some] <;> rfl),by repeat (first|(with_reducible first|exact HB.out|apply zbA|apply zbN|apply zb1|refine zbS ?_ GE230.out)|exact HB.out)⟩
 rw [if_neg c9] at H
 have c9b0 : decide (1≤a0_1)=false:=decide_eq_false c9
 clear c9
 obtain rfl:=Option.some.inj H
 go_enter Try.func122,Try.ntmps122
 go_wp2_with (first|((with_reducible refine gate_dst (N:=2) rfl ?_);refine box_event ?hg (N:=2) ?hd (cs:=#[.int .i64 a0_0,.int .i64 a0_1]) (t:=103) ?hr ?_;(case hd=>rfl);(case hg=>rfl);(case hr=>first|(go_simp;done)|(go_simp;rfl));intro gb230 hg w15 hbox hb;have n0_:=Z0.mk (below_step (by repeat (first|(with_reducible first|exact HB.out|apply zbA|apply zbN|apply zb1)|exact HB.out)) hb);have n1_:=Z0.mk (hbox);have n2_:=Z0.mk ((by rw [hg];exact (below_size (by repeat (first|(with_reducible first|exact HB.out|apply zbA|apply zbN|apply zb1)|exact HB.out))) : w.heap.size≤gb230));have n3_:=Z0.mk ((by rw [hg];exact (below_size (by repeat (first|(with_reducible first|exact HB.out|apply zbA|apply zbN|apply zb1)|exact HB.out))) : w.heap.size≤gb230));clear HB;have HB:=n0_;have BK230:=n1_;have GW230:=n2_;have GE230:=n3_;clear n0_ n1_ n2_ n3_;clear hb hbox hg;have hcz16_0 : w15.cell? ⟨gb230,0,none⟩=some (.int .i64 a0_0):=(zkC BK230.out 0).trans rfl;have hcz16_1 : w15.cell? ⟨gb230,1,none⟩=some (.int .i64 a0_1):=(zkC BK230.out 1).trans rfl;have hfz16_0:=zkF BK230.out 0;have hfz16_1:=zkF BK230.out 1))
 go_ret
 exact ⟨by first|rfl|(simp [errW_none,errW_some] <;> rfl)|(simp [*,errW_none,errW_some] <;> rfl),by repeat (first|(with_reducible first|exact HB.out|apply zbA|apply zbN|apply zb1|refine zbS ?_ GE230.out)|exact HB.out)⟩
end Go.Proofs.Ytegefemkmdlmaaa.P
