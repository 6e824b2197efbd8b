import Derived.Test.YtegefemkmdlmaaaF0
import Derived.Test.YtegefemkmdlmaaaF70
import Derived.Test.YtegefemkmdlmaaaF107
namespace Go.Proofs.Ytegefemkmdlmaaa.P
open Go.RowKit Go.Proofs.YtegefemkmdlmaaaW.PrintWords Go.Proofs.YtegefemkmdlmaaaW.PrintLast Go.Proofs.YtegefemkmdlmaaaW.PrintMore
attribute [local go_sem] max2_int min2_int max_two min_two max_three min_three max_four min_four
set_option linter.unusedVariables false
set_option linter.unusedSimpArgs false
def q1ReadCount.f (k:Nat) (a0_0:ByteArray) (a0_1:Int) (a1:Int):Option (Int×ByteArray×Int):=(q1ReadNumber.f k a0_0 a0_1).bind fun bt433=>(if bt433.2.2=0 then (if a1 < 0 then ((q1fail.f 8).bind fun bt437=>(some (0,bt437.1,bt437.2))) else (if bt433.1 > (IntKind.u64.wrap (a1)) then ((q1fail.f 8).bind fun bt439=>(some (0,bt439.1,bt439.2))) else (some (wrap64 (bt433.1),bt433.2.1,bt433.2.2)))) else (some (wrap64 (bt433.1),bt433.2.1,bt433.2.2)))
theorem q1ReadCount.mono:∀ a0 a1 a2 k,LeO (q1ReadCount.f k a0 a1 a2) (q1ReadCount.f (k + 1) a0 a1 a2):=by
 intro a0 a1 a2 k
 unfold q1ReadCount.f
 repeat' first
   | (with_reducible exact q1ReadNumber.mono _ _ _)
   | (with_reducible exact LeO.refl _)
   | (with_reducible exact LeO.none _)
   | (with_reducible refine LeO.ite ?_ ?_)
   | (with_reducible refine LeO.bind ?_ (fun _=>?_))
   | exact q1ReadNumber.mono _ _ _
   | exact LeO.none _
   | refine LeO.ite ?_ ?_
   | refine LeO.bind ?_ (fun _=>?_)
set_option maxHeartbeats 8000000 in
set_option maxRecDepth 100000 in
theorem q1ReadCount.calls (k:Nat) (a0_0:ByteArray) (a0_1:Int) (a1:Int) (r1:Int) (r2:ByteArray) (r3:Int) (w:World) (h : q1ReadCount.f k a0_0 a0_1 a1=some (r1,r2,r3)) :
  Calls Try.prog 77 #[.agg #[.string a0_0,.int .i64 a0_1],.int .i64 a1] w fun e w'=>e=.returned (.tuple #[.int .i64 r1,.agg #[.string r2,.int .i64 r3]])∧Below w.heap.size w w':=by
 have hu69:=Try.underlying69
 have HB:=Z0.mk (Below.refl w.heap.size w)
 have H:((q1ReadNumber.f k a0_0 a0_1).bind fun bt433=>(if bt433.2.2=0 then (if a1 < 0 then ((q1fail.f 8).bind fun bt437=>(some (0,bt437.1,bt437.2))) else (if bt433.1 > (IntKind.u64.wrap (a1)) then ((q1fail.f 8).bind fun bt439=>(some (0,bt439.1,bt439.2))) else (some (wrap64 (bt433.1),bt433.2.1,bt433.2.2)))) else (some (wrap64 (bt433.1),bt433.2.1,bt433.2.2))))=some (r1,r2,r3):=h
 clear h
 replace H:=Option.bind_eq_some_iff.mp H
 obtain ⟨⟨t433,t434,t435⟩,A30,H⟩:=H
 replace H:(if t435=0 then (if a1 < 0 then ((q1fail.f 8).bind fun bt437=>(some (0,bt437.1,bt437.2))) else (if t433 > (IntKind.u64.wrap (a1)) then ((q1fail.f 8).bind fun bt439=>(some (0,bt439.1,bt439.2))) else (some (wrap64 (t433),t434,t435)))) else (some (wrap64 (t433),t434,t435)))=some (r1,r2,r3):=H
 have A3:=Z0.mk A30
 clear A30
 by_cases c4 : t435=0
 ·rw [if_pos c4] at H
  have c4b0:(t435 == 0)=true:=beq_iff_eq.mpr c4
  have c4b1:(t435 != 0)=false:=bne_eq_false_iff_eq.mpr c4
  clear c4
  by_cases c5 : a1 < 0
  ·rw [if_pos c5] at H
   have c5b0 : decide (a1 < 0)=true:=decide_eq_true c5
   clear c5
   replace H:=Option.bind_eq_some_iff.mp H
   obtain ⟨⟨t437,t438⟩,A60,H⟩:=H
   replace H:(some (0,t437,t438))=some (r1,r2,r3):=H
   have A6:=Z0.mk A60
   clear A60
   simp only [Option.some.injEq,Prod.mk.injEq] at H
   obtain ⟨rfl,rfl,rfl⟩:=H
   go_enter Try.func77,Try.ntmps77
   go_wp2_with (first|((with_reducible refine gate_dst (N:=2) rfl ?_);refine box_event ?hg (N:=2) ?hd (cs:=#[.string a0_0,.int .i64 a0_1]) (t:=69) ?hr ?_;(case hd=>rfl);(case hg=>rfl);(case hr=>first|(go_simp;done)|(go_simp;rfl));intro gb431 hg w7 hbox hb;have n0_:=Z0.mk (below_step (by repeat (first|(with_reducible first|exact HB.out|apply zbA|apply zbN|apply zb1)|exact HB.out)) hb);have n1_:=Z0.mk (hbox);have n2_:=Z0.mk ((by rw [hg];exact (below_size (by repeat (first|(with_reducible first|exact HB.out|apply zbA|apply zbN|apply zb1)|exact HB.out))) : w.heap.size≤gb431));have n3_:=Z0.mk ((by rw [hg];exact (below_size (by repeat (first|(with_reducible first|exact HB.out|apply zbA|apply zbN|apply zb1)|exact HB.out))) : w.heap.size≤gb431));clear HB;have HB:=n0_;have BK431:=n1_;have GW431:=n2_;have GE431:=n3_;clear n0_ n1_ n2_ n3_;clear hb hbox hg)|((with_reducible refine gate_dst (N:=5) rfl ?_);refine box_event ?hg (N:=5) ?hd (cs:=#[.string (⟨#[]⟩:ByteArray),.int .i64 0]) (t:=69) ?hr ?_;(case hd=>rfl);(case hg=>rfl);(case hr=>first|(go_simp;done)|(go_simp;rfl));intro gb432 hg w8 hbox hb;have n0_:=Z0.mk (blk_below (g:=gb431) (o:=.cells #[.string a0_0,.int .i64 a0_1] 69 (0,0)) (by (with_reducible repeat (first|refine zkN ?_ _|refine zkD ?_|refine zkA ?_ _));exact BK431.out) hb);have n1_:=Z0.mk (below_step (by repeat (first|(with_reducible first|exact HB.out|apply zbA|apply zbN|apply zb1|refine zbS ?_ GE431.out)|exact HB.out)) hb);have n2_:=Z0.mk (hbox);have n3_:=Z0.mk ((by rw [hg];exact (below_size (by repeat (first|(with_reducible first|exact HB.out|apply zbA|apply zbN|apply zb1|refine zbS ?_ GE431.out)|exact HB.out))) : w.heap.size≤gb432));have n4_:=Z0.mk ((by rw [hg];exact (below_size (by repeat (first|(with_reducible first|exact HB.out|apply zbA|apply zbN|apply zb1|refine zbS ?_ GE431.out)|exact HB.out))) : w.heap.size≤gb432));have n5_:=Z0.mk ((by rw [hg];exact Nat.ne_of_lt (blk_lt (g:=gb431) (o:=.cells #[.string a0_0,.int .i64 a0_1] 69 (0,0)) (by (with_reducible repeat (first|refine zkN ?_ _|refine zkD ?_|refine zkA ?_ _));exact BK431.out)) : gb431 ≠ gb432));have n6_:=Z0.mk ((by rw [hg];exact Nat.ne_of_gt (blk_lt (g:=gb431) (o:=.cells #[.string a0_0,.int .i64 a0_1] 69 (0,0)) (by (with_reducible repeat (first|refine zkN ?_ _|refine zkD ?_|refine zkA ?_ _));exact BK431.out)) : gb432 ≠ gb431));clear BK431;clear HB;have BK431:=n0_;have HB:=n1_;have BK432:=n2_;have GW432:=n3_;have GE432:=n4_;have NB431_432:=n5_;have NB432_431:=n6_;clear n0_ n1_ n2_ n3_ n4_ n5_ n6_;clear hb hbox hg;have hnb9:=NB431_432.out;have hnc9:=NB432_431.out;have hcz10_0 : w8.cell? ⟨gb431,0,none⟩=some (.string a0_0):=(zkC BK431.out 0).trans rfl;have hcz10_1 : w8.cell? ⟨gb431,1,none⟩=some (.int .i64 a0_1):=(zkC BK431.out 1).trans rfl;have hfz10_0:=zkF BK431.out 0;have hfz10_1:=zkF BK431.out 1)|((with_reducible refine gate_callee (f:=70) rfl ?_);refine goesL_ (some 10) rfl rfl Try.func70 (by kernel_rfl) rfl #[.agg #[.string a0_0,.int .i64 a0_1]] rfl (by (try simp only [List.map_toArray,List.map_cons,List.map_nil]);first|done|rfl|(simp only [List.length_drop,List.length_take];rfl)) ?_;(with_reducible refine (q1ReadNumber.calls k a0_0 a0_1 t433 t434 t435 _ A3.out).mono ?_);rintro e w11 ⟨rfl,hb⟩;refine ⟨_,rfl,?_⟩;have n0_:=Z0.mk (blk_below (g:=gb431) (o:=.cells #[.string a0_0,.int .i64 a0_1] 69 (0,0)) (by (with_reducible repeat (first|refine zkN ?_ _|refine zkD ?_|refine zkA ?_ _));exact BK431.out) hb);have n1_:=Z0.mk (blk_below (g:=gb432) (o:=.cells #[.string (⟨#[]⟩:ByteArray),.int .i64 0] 69 (0,0)) (by (with_reducible repeat (first|refine zkN ?_ _|refine zkD ?_|refine zkA ?_ _));exact BK432.out) hb);have n2_:=Z0.mk (below_step (by repeat (first|(with_reducible first|exact HB.out|apply zbA|apply zbN|apply zb1|refine zbS ?_ GE431.out|refine zbS ?_ GE432.out)|exact HB.out)) hb);clear BK431;clear BK432;clear HB;have BK431:=n0_;have BK432:=n1_;have HB:=n2_;clear n0_ n1_ n2_;(try clear hb);(try clear hb2);(try clear hk);(try clear hi))|((with_reducible refine gate_dst (N:=7) rfl ?_);refine box_event ?hg (N:=7) ?hd (cs:=#[.string (⟨#[]⟩:ByteArray),.int .i64 0]) (t:=69) ?hr ?_;(case hd=>rfl);(case hg=>rfl);(case hr=>first|(go_simp;done)|(go_simp;rfl));intro gb436 hg w12 hbox hb;have n0_:=Z0.mk (blk_below (g:=gb431) (o:=.cells #[.string a0_0,.int .i64 a0_1] 69 (0,0)) (by (with_reducible repeat (first|refine zkN ?_ _|refine zkD ?_|refine zkA ?_ _));exact BK431.out) hb);have n1_:=Z0.mk (blk_below (g:=gb432) (o:=.cells #[.string (⟨#[]⟩:ByteArray),.int .i64 0] 69 (0,0)) (by (with_reducible repeat (first|refine zkN ?_ _|refine zkD ?_|refine zkA ?_ _));exact BK432.out) hb);have n2_:=Z0.mk (below_step (by repeat (first|(with_reducible first|exact HB.out|apply zbA|apply zbN|apply zb1|refine zbS ?_ GE431.out|refine zbS ?_ GE432.out)|exact HB.out)) hb);have n3_:=Z0.mk (hbox);have n4_:=Z0.mk ((by rw [hg];exact (below_size (by repeat (first|(with_reducible first|exact HB.out|apply zbA|apply zbN|apply zb1|refine zbS ?_ GE431.out|refine zbS ?_ GE432.out)|exact HB.out))) : w.heap.size≤gb436));have n5_:=Z0.mk ((by rw [hg];exact (below_size (by repeat (first|(with_reducible first|exact HB.out|apply zbA|apply zbN|apply zb1|refine zbS ?_ GE431.out|refine zbS ?_ GE432.out)|exact HB.out))) : w.heap.size≤gb436));have n6_:=Z0.mk ((by rw [hg];exact Nat.ne_of_lt (blk_lt (g:=gb431) (o:=.cells #[.string a0_0,.int .i64 a0_1] 69 (0,0)) (by (with_reducible repeat (first|refine zkN ?_ _|refine zkD ?_|refine zkA ?_ _));exact BK431.out)) : gb431 ≠ gb436));have n7_:=Z0.mk ((by rw [hg];exact Nat.ne_of_gt (blk_lt (g:=gb431) (o:=.cells #[.string a0_0,.int .i64 a0_1] 69 (0,0)) (by (with_reducible repeat (first|refine zkN ?_ _|refine zkD ?_|refine zkA ?_ _));exact BK431.out)) : gb436 ≠ gb431));have n8_:=Z0.mk ((by rw [hg];exact Nat.ne_of_lt (blk_lt (g:=gb432) (o:=.cells #[.string (⟨#[]⟩:ByteArray),.int .i64 0] 69 (0,0)) (by (with_reducible repeat (first|refine zkN ?_ _|refine zkD ?_|refine zkA ?_ _));exact BK432.out)) : gb432 ≠ gb436));have n9_:=Z0.mk ((by rw [hg];exact Nat.ne_of_gt (blk_lt (g:=gb432) (o:=.cells #[.string (⟨#[]⟩:ByteArray),.int .i64 0] 69 (0,0)) (by (with_reducible repeat (first|refine zkN ?_ _|refine zkD ?_|refine zkA ?_ _));exact BK432.out)) : gb436 ≠ gb432));clear BK431;clear BK432;clear HB;have BK431:=n0_;have BK432:=n1_;have HB:=n2_;have BK436:=n3_;have GW436:=n4_;have GE436:=n5_;have NB431_436:=n6_;have NB436_431:=n7_;have NB432_436:=n8_;have NB436_432:=n9_;clear n0_ n1_ n2_ n3_ n4_ n5_ n6_ n7_ n8_ n9_;clear hb hbox hg;have hnb13:=NB436_431.out;have hnc13:=NB431_436.out;have hnb14:=NB436_432.out;have hnc14:=NB432_436.out;have hcz15_0 : w12.cell? ⟨gb436,0,none⟩=some (.string (⟨#[]⟩:ByteArray)):=(zkC BK436.out 0).trans rfl;have hcz15_1 : w12.cell? ⟨gb436,1,none⟩=some (.int .i64 0):=(zkC BK436.out 1).trans rfl;have hfz15_0:=zkF BK436.out 0;have hfz15_1:=zkF BK436.out 1)|((with_reducible refine gate_callee (f:=107) rfl ?_);refine goesL_ (some 26) rfl rfl Try.func107 (by kernel_rfl) rfl #[.int .i64 8] rfl (by (try simp only [List.map_toArray,List.map_cons,List.map_nil]);first|done|rfl|(simp only [List.length_drop,List.length_take];rfl)) ?_;(with_reducible refine (q1fail.calls 8 t437 t438 _ A6.out).mono ?_);rintro e w16 ⟨rfl,hb⟩;refine ⟨_,rfl,?_⟩;have n0_:=Z0.mk (blk_below (g:=gb431) (o:=.cells #[.string a0_0,.int .i64 a0_1] 69 (0,0)) (by (with_reducible repeat (first|refine zkN ?_ _|refine zkD ?_|refine zkA ?_ _));refine blk_far ?_ NB431_436.out _;(with_reducible repeat (first|refine zkN ?_ _|refine zkD ?_|refine zkA ?_ _));refine blk_far ?_ NB431_436.out _;(with_reducible repeat (first|refine zkN ?_ _|refine zkD ?_|refine zkA ?_ _));exact BK431.out) hb);have n1_:=Z0.mk (blk_below (g:=gb432) (o:=.cells #[.string (⟨#[]⟩:ByteArray),.int .i64 0] 69 (0,0)) (by (with_reducible repeat (first|refine zkN ?_ _|refine zkD ?_|refine zkA ?_ _));refine blk_far ?_ NB432_436.out _;(with_reducible repeat (first|refine zkN ?_ _|refine zkD ?_|refine zkA ?_ _));refine blk_far ?_ NB432_436.out _;(with_reducible repeat (first|refine zkN ?_ _|refine zkD ?_|refine zkA ?_ _));exact BK432.out) hb);have n2_:=Z0.mk (blk_below (g:=gb436) (o:=.cells #[.string t434,.int .i64 t435] 69 (0,0)) (by (with_reducible repeat (first|refine zkN ?_ _|refine zkD ?_|refine zkA ?_ _));refine blk_put (cs:=#[.string t434,.int .i64 0]) ?_ 1 _ rfl;(with_reducible repeat (first|refine zkN ?_ _|refine zkD ?_|refine zkA ?_ _));refine blk_put (cs:=#[.string (⟨#[]⟩:ByteArray),.int .i64 0]) ?_ 0 _ rfl;(with_reducible repeat (first|refine zkN ?_ _|refine zkD ?_|refine zkA ?_ _));exact BK436.out) hb);have n3_:=Z0.mk (below_step (by repeat (first|(with_reducible first|exact HB.out|apply zbA|apply zbN|apply zb1|refine zbS ?_ GE431.out|refine zbS ?_ GE432.out|refine zbS ?_ GE436.out)|exact HB.out)) hb);clear BK431;clear BK432;clear BK436;clear HB;have BK431:=n0_;have BK432:=n1_;have BK436:=n2_;have HB:=n3_;clear n0_ n1_ n2_ n3_;(try clear hb);(try clear hb2);(try clear hk);(try clear hi);have hcz17_0 : w16.cell? ⟨gb432,0,none⟩=some (.string (⟨#[]⟩:ByteArray)):=(zkC BK432.out 0).trans rfl;have hcz17_1 : w16.cell? ⟨gb432,1,none⟩=some (.int .i64 0):=(zkC BK432.out 1).trans rfl;have hfz17_0:=zkF BK432.out 0;have hfz17_1:=zkF BK432.out 1))
   refine bodyPost_ret (results_tc rfl _ _ gb432 69 #[.string t437,.int .i64 t438] (0,0) _ rfl (by (with_reducible repeat (first|refine zkN ?_ _|refine zkD ?_|refine zkA ?_ _));refine blk_put (cs:=#[.string t437,.int .i64 0]) ?_ 1 _ rfl;(with_reducible repeat (first|refine zkN ?_ _|refine zkD ?_|refine zkA ?_ _));refine blk_put (cs:=#[.string (⟨#[]⟩:ByteArray),.int .i64 0]) ?_ 0 _ rfl;(with_reducible repeat (first|refine zkN ?_ _|refine zkD ?_|refine zkA ?_ _));exact BK432.out) Try.underlying69 rfl (by kernel_rfl)) rfl ?_
   exact ⟨by first|rfl|(simp [errW_none,errW_some] <;> rfl)|(simp [*,errW_none,errW_some] <;> rfl),by repeat (first|(with_reducible first|exact HB.out|apply zbA|apply zbN|apply zb1|refine zbS ?_ GE431.out|refine zbS ?_ GE432.out|refine zbS ?_ GE436.out)|exact HB.out)⟩
  rw [if_neg c5] at H
  have c5b0 : decide (a1 < 0)=false:=decide_eq_false c5
  clear c5
  by_cases c18 : t433 > (IntKind.u64.wrap (a1))
  ·rw [if_pos c18] at H
   have c18b0 : decide ((IntKind.u64.wrap (a1)) < t433)=true:=decide_eq_true c18
   clear c18
   replace H:=Option.bind_eq_some_iff.mp H
   obtain ⟨⟨t439,t440⟩,A190,H⟩:=H
   replace H:(some (0,t439,t440))=some (r1,r2,r3):=H
   have A19:=Z0.mk A190
   clear A190
   simp only [Option.some.injEq,Prod.mk.injEq] at H
   obtain ⟨rfl,rfl,rfl⟩:=H
   go_enter Try.func77,Try.ntmps77
   go_wp2_with (first|((with_reducible refine gate_dst (N:=2) rfl ?_);refine box_event ?hg (N:=2) ?hd (cs:=#[.string a0_0,.int .i64 a0_1]) (t:=69) ?hr ?_;(case hd=>rfl);(case hg=>rfl);(case hr=>first|(go_simp;done)|(go_simp;rfl));intro gb431 hg w20 hbox hb;have n0_:=Z0.mk (below_step (by repeat (first|(with_reducible first|exact HB.out|apply zbA|apply zbN|apply zb1)|exact HB.out)) hb);have n1_:=Z0.mk (hbox);have n2_:=Z0.mk ((by rw [hg];exact (below_size (by repeat (first|(with_reducible first|exact HB.out|apply zbA|apply zbN|apply zb1)|exact HB.out))) : w.heap.size≤gb431));have n3_:=Z0.mk ((by rw [hg];exact (below_size (by repeat (first|(with_reducible first|exact HB.out|apply zbA|apply zbN|apply zb1)|exact HB.out))) : w.heap.size≤gb431));clear HB;have HB:=n0_;have BK431:=n1_;have GW431:=n2_;have GE431:=n3_;clear n0_ n1_ n2_ n3_;clear hb hbox hg)|((with_reducible refine gate_dst (N:=5) rfl ?_);refine box_event ?hg (N:=5) ?hd (cs:=#[.string (⟨#[]⟩:ByteArray),.int .i64 0]) (t:=69) ?hr ?_;(case hd=>rfl);(case hg=>rfl);(case hr=>first|(go_simp;done)|(go_simp;rfl));intro gb432 hg w21 hbox hb;have n0_:=Z0.mk (blk_below (g:=gb431) (o:=.cells #[.string a0_0,.int .i64 a0_1] 69 (0,0)) (by (with_reducible repeat (first|refine zkN ?_ _|refine zkD ?_|refine zkA ?_ _));exact BK431.out) hb);have n1_:=Z0.mk (below_step (by repeat (first|(with_reducible first|exact HB.out|apply zbA|apply zbN|apply zb1|refine zbS ?_ GE431.out)|exact HB.out)) hb);have n2_:=Z0.mk (hbox);have n3_:=Z0.mk ((by rw [hg];exact (below_size (by repeat (first|(with_reducible first|exact HB.out|apply zbA|apply zbN|apply zb1|refine zbS ?_ GE431.out)|exact HB.out))) : w.heap.size≤gb432));have n4_:=Z0.mk ((by rw [hg];exact (below_size (by repeat (first|(with_reducible first|exact HB.out|apply zbA|apply zbN|apply zb1|refine zbS ?_ GE431.out)|exact HB.out))) : w.heap.size≤gb432));have n5_:=Z0.mk ((by rw [hg];exact Nat.ne_of_lt (blk_lt (g:=gb431) (o:=.cells #[.string a0_0,.int .i64 a0_1] 69 (0,0)) (by (with_reducible repeat (first|refine zkN ?_ _|refine zkD ?_|refine zkA ?_ _));exact BK431.out)) : gb431 ≠ gb432));have n6_:=Z0.mk ((by rw [hg];exact Nat.ne_of_gt (blk_lt (g:=gb431) (o:=.cells #[.string a0_0,.int .i64 a0_1] 69 (0,0)) (by (with_reducible repeat (first|refine zkN ?_ _|refine zkD ?_|refine zkA ?_ _));exact BK431.out)) : gb432 ≠ gb431));clear BK431;clear HB;have BK431:=n0_;have HB:=n1_;have BK432:=n2_;have GW432:=n3_;have GE432:=n4_;have NB431_432:=n5_;have NB432_431:=n6_;clear n0_ n1_ n2_ n3_ n4_ n5_ n6_;clear hb hbox hg;have hnb22:=NB431_432.out;have hnc22:=NB432_431.out;have hcz23_0 : w21.cell? ⟨gb431,0,none⟩=some (.string a0_0):=(zkC BK431.out 0).trans rfl;have hcz23_1 : w21.cell? ⟨gb431,1,none⟩=some (.int .i64 a0_1):=(zkC BK431.out 1).trans rfl;have hfz23_0:=zkF BK431.out 0;have hfz23_1:=zkF BK431.out 1)|((with_reducible refine gate_callee (f:=70) rfl ?_);refine goesL_ (some 10) rfl rfl Try.func70 (by kernel_rfl) rfl #[.agg #[.string a0_0,.int .i64 a0_1]] rfl (by (try simp only [List.map_toArray,List.map_cons,List.map_nil]);first|done|rfl|(simp only [List.length_drop,List.length_take];rfl)) ?_;(with_reducible refine (q1ReadNumber.calls k a0_0 a0_1 t433 t434 t435 _ A3.out).mono ?_);rintro e w24 ⟨rfl,hb⟩;refine ⟨_,rfl,?_⟩;have n0_:=Z0.mk (blk_below (g:=gb431) (o:=.cells #[.string a0_0,.int .i64 a0_1] 69 (0,0)) (by (with_reducible repeat (first|refine zkN ?_ _|refine zkD ?_|refine zkA ?_ _));exact BK431.out) hb);have n1_:=Z0.mk (blk_below (g:=gb432) (o:=.cells #[.string (⟨#[]⟩:ByteArray),.int .i64 0] 69 (0,0)) (by (with_reducible repeat (first|refine zkN ?_ _|refine zkD ?_|refine zkA ?_ _));exact BK432.out) hb);have n2_:=Z0.mk (below_step (by repeat (first|(with_reducible first|exact HB.out|apply zbA|apply zbN|apply zb1|refine zbS ?_ GE431.out|refine zbS ?_ GE432.out)|exact HB.out)) hb);clear BK431;clear BK432;clear HB;have BK431:=n0_;have BK432:=n1_;have HB:=n2_;clear n0_ n1_ n2_;(try clear hb);(try clear hb2);(try clear hk);(try clear hi))|((with_reducible refine gate_dst (N:=7) rfl ?_);refine box_event ?hg (N:=7) ?hd (cs:=#[.string (⟨#[]⟩:ByteArray),.int .i64 0]) (t:=69) ?hr ?_;(case hd=>rfl);(case hg=>rfl);(case hr=>first|(go_simp;done)|(go_simp;rfl));intro gb436 hg w25 hbox hb;have n0_:=Z0.mk (blk_below (g:=gb431) (o:=.cells #[.string a0_0,.int .i64 a0_1] 69 (0,0)) (by (with_reducible repeat (first|refine zkN ?_ _|refine zkD ?_|refine zkA ?_ _));exact BK431.out) hb);have n1_:=Z0.mk (blk_below (g:=gb432) (o:=.cells #[.string (⟨#[]⟩:ByteArray),.int .i64 0] 69 (0,0)) (by (with_reducible repeat (first|refine zkN ?_ _|refine zkD ?_|refine zkA ?_ _));exact BK432.out) hb);have n2_:=Z0.mk (below_step (by repeat (first|(with_reducible first|exact HB.out|apply zbA|apply zbN|apply zb1|refine zbS ?_ GE431.out|refine zbS ?_ GE432.out)|exact HB.out)) hb);have n3_:=Z0.mk (hbox);have n4_:=Z0.mk ((by rw [hg];exact (below_size (by repeat (first|(with_reducible first|exact HB.out|apply zbA|apply zbN|apply zb1|refine zbS ?_ GE431.out|refine zbS ?_ GE432.out)|exact HB.out))) : w.heap.size≤gb436));have n5_:=Z0.mk ((by rw [hg];exact (below_size (by repeat (first|(with_reducible first|exact HB.out|apply zbA|apply zbN|apply zb1|refine zbS ?_ GE431.out|refine zbS ?_ GE432.out)|exact HB.out))) : w.heap.size≤gb436));have n6_:=Z0.mk ((by rw [hg];exact Nat.ne_of_lt (blk_lt (g:=gb431) (o:=.cells #[.string a0_0,.int .i64 a0_1] 69 (0,0)) (by (with_reducible repeat (first|refine zkN ?_ _|refine zkD ?_|refine zkA ?_ _));exact BK431.out)) : gb431 ≠ gb436));have n7_:=Z0.mk ((by rw [hg];exact Nat.ne_of_gt (blk_lt (g:=gb431) (o:=.cells #[.string a0_0,.int .i64 a0_1] 69 (0,0)) (by (with_reducible repeat (first|refine zkN ?_ _|refine zkD ?_|refine zkA ?_ _));exact BK431.out)) : gb436 ≠ gb431));have n8_:=Z0.mk ((by rw [hg];exact Nat.ne_of_lt (blk_lt (g:=gb432) (o:=.cells #[.string (⟨#[]⟩:ByteArray),.int .i64 0] 69 (0,0)) (by (with_reducible repeat (first|refine zkN ?_ _|refine zkD ?_|refine zkA ?_ _));exact BK432.out)) : gb432 ≠ gb436));have n9_:=Z0.mk ((by rw [hg];exact Nat.ne_of_gt (blk_lt (g:=gb432) (o:=.cells #[.string (⟨#[]⟩:ByteArray),.int .i64 0] 69 (0,0)) (by (with_reducible repeat (first|refine zkN ?_ _|refine zkD ?_|refine zkA ?_ _));exact BK432.out)) : gb436 ≠ gb432));clear BK431;clear BK432;clear HB;have BK431:=n0_;have BK432:=n1_;have HB:=n2_;have BK436:=n3_;have GW436:=n4_;have GE436:=n5_;have NB431_436:=n6_;have NB436_431:=n7_;have NB432_436:=n8_;have NB436_432:=n9_;clear n0_ n1_ n2_ n3_ n4_ n5_ n6_ n7_ n8_ n9_;clear hb hbox hg;have hnb26:=NB436_431.out;have hnc26:=NB431_436.out;have hnb27:=NB436_432.out;have hnc27:=NB432_436.out;have hcz28_0 : w25.cell? ⟨gb436,0,none⟩=some (.string (⟨#[]⟩:ByteArray)):=(zkC BK436.out 0).trans rfl;have hcz28_1 : w25.cell? ⟨gb436,1,none⟩=some (.int .i64 0):=(zkC BK436.out 1).trans rfl;have hfz28_0:=zkF BK436.out 0;have hfz28_1:=zkF BK436.out 1)|((with_reducible refine gate_callee (f:=107) rfl ?_);refine goesL_ (some 26) rfl rfl Try.func107 (by kernel_rfl) rfl #[.int .i64 8] rfl (by (try simp only [List.map_toArray,List.map_cons,List.map_nil]);first|done|rfl|(simp only [List.length_drop,List.length_take];rfl)) ?_;(with_reducible refine (q1fail.calls 8 t439 t440 _ A19.out).mono ?_);rintro e w29 ⟨rfl,hb⟩;refine ⟨_,rfl,?_⟩;have n0_:=Z0.mk (blk_below (g:=gb431) (o:=.cells #[.string a0_0,.int .i64 a0_1] 69 (0,0)) (by (with_reducible repeat (first|refine zkN ?_ _|refine zkD ?_|refine zkA ?_ _));refine blk_far ?_ NB431_436.out _;(with_reducible repeat (first|refine zkN ?_ _|refine zkD ?_|refine zkA ?_ _));refine blk_far ?_ NB431_436.out _;(with_reducible repeat (first|refine zkN ?_ _|refine zkD ?_|refine zkA ?_ _));exact BK431.out) hb);have n1_:=Z0.mk (blk_below (g:=gb432) (o:=.cells #[.string (⟨#[]⟩:ByteArray),.int .i64 0] 69 (0,0)) (by (with_reducible repeat (first|refine zkN ?_ _|refine zkD ?_|refine zkA ?_ _));refine blk_far ?_ NB432_436.out _;(with_reducible repeat (first|refine zkN ?_ _|refine zkD ?_|refine zkA ?_ _));refine blk_far ?_ NB432_436.out _;(with_reducible repeat (first|refine zkN ?_ _|refine zkD ?_|refine zkA ?_ _));exact BK432.out) hb);have n2_:=Z0.mk (blk_below (g:=gb436) (o:=.cells #[.string t434,.int .i64 t435] 69 (0,0)) (by (with_reducible repeat (first|refine zkN ?_ _|refine zkD ?_|refine zkA ?_ _));refine blk_put (cs:=#[.string t434,.int .i64 0]) ?_ 1 _ rfl;(with_reducible repeat (first|refine zkN ?_ _|refine zkD ?_|refine zkA ?_ _));refine blk_put (cs:=#[.string (⟨#[]⟩:ByteArray),.int .i64 0]) ?_ 0 _ rfl;(with_reducible repeat (first|refine zkN ?_ _|refine zkD ?_|refine zkA ?_ _));exact BK436.out) hb);have n3_:=Z0.mk (below_step (by repeat (first|(with_reducible first|exact HB.out|apply zbA|apply zbN|apply zb1|refine zbS ?_ GE431.out|refine zbS ?_ GE432.out|refine zbS ?_ GE436.out)|exact HB.out)) hb);clear BK431;clear BK432;clear BK436;clear HB;have BK431:=n0_;have BK432:=n1_;have BK436:=n2_;have HB:=n3_;clear n0_ n1_ n2_ n3_;(try clear hb);(try clear hb2);(try clear hk);(try clear hi);have hcz30_0 : w29.cell? ⟨gb432,0,none⟩=some (.string (⟨#[]⟩:ByteArray)):=(zkC BK432.out 0).trans rfl;have hcz30_1 : w29.cell? ⟨gb432,1,none⟩=some (.int .i64 0):=(zkC BK432.out 1).trans rfl;have hfz30_0:=zkF BK432.out 0;have hfz30_1:=zkF BK432.out 1))
   refine bodyPost_ret (results_tc rfl _ _ gb432 69 #[.string t439,.int .i64 t440] (0,0) _ rfl (by (with_reducible repeat (first|refine zkN ?_ _|refine zkD ?_|refine zkA ?_ _));refine blk_put (cs:=#[.string t439,.int .i64 0]) ?_ 1 _ rfl;(with_reducible repeat (first|refine zkN ?_ _|refine zkD ?_|refine zkA ?_ _));refine blk_put (cs:=#[.string (⟨#[]⟩:ByteArray),.int .i64 0]) ?_ 0 _ rfl;(with_reducible repeat (first|refine zkN ?_ _|refine zkD ?_|refine zkA ?_ _));exact BK432.out) Try.underlying69 rfl (by kernel_rfl)) rfl ?_
   exact ⟨by first|rfl|(simp [errW_none,errW_some] <;> rfl)|(simp [*,errW_none,errW_some] <;> rfl),by repeat (first|(with_reducible first|exact HB.out|apply zbA|apply zbN|apply zb1|refine zbS ?_ GE431.out|refine zbS ?_ GE432.out|refine zbS ?_ GE436.out)|exact HB.out)⟩
  rw [if_neg c18] at H
  have c18b0 : decide ((IntKind.u64.wrap (a1)) < t433)=false:=decide_eq_false c18
  clear c18
  simp only [Option.some.injEq,Prod.mk.injEq] at H
  obtain ⟨rfl,rfl,rfl⟩:=H
  go_enter Try.func77,Try.ntmps77
  try go_wp2_with (first|((with_reducible refine gate_dst (N:=2) rfl ?_);refine box_event ?hg (N:=2) ?hd (cs:=#[.string a0_0,.int .i64 a0_1]) (t:=69) ?hr ?_;(case hd=>rfl);(case hg=>rfl);(case hr=>first|(go_simp;done)|(go_simp;rfl));intro gb431 hg w31 hbox hb;have n0_:=Z0.mk (below_step (by repeat (first|(with_reducible first|exact HB.out|apply zbA|apply zbN|apply zb1)|exact HB.out)) hb);have n1_:=Z0.mk (hbox);have n2_:=Z0.mk ((by rw [hg];exact (below_size (by repeat (first|(with_reducible first|exact HB.out|apply zbA|apply zbN|apply zb1)|exact HB.out))) : w.heap.size≤gb431));have n3_:=Z0.mk ((by rw [hg];exact (below_size (by repeat (first|(with_reducible first|exact HB.out|apply zbA|apply zbN|apply zb1)|exact HB.out))) : w.heap.size≤gb431));clear HB;have HB:=n0_;have BK431:=n1_;have GW431:=n2_;have GE431:=n3_;clear n0_ n1_ n2_ n3_;clear hb hbox hg)|((with_reducible refine gate_dst (N:=5) rfl ?_);refine box_event ?hg (N:=5) ?hd (cs:=#[.string (⟨#[]⟩:ByteArray),.int .i64 0]) (t:=69) ?hr ?_;(case hd=>rfl);(case hg=>rfl);(case hr=>first|(go_simp;done)|(go_simp;rfl));intro gb432 hg w32 hbox hb;have n0_:=Z0.mk (blk_below (g:=gb431) (o:=.cells #[.string a0_0,.int .i64 a0_1] 69 (0,0)) (by (with_reducible repeat (first|refine zkN ?_ _|refine zkD ?_|refine zkA ?_ _));exact BK431.out) hb);have n1_:=Z0.mk (below_step (by repeat (first|(with_reducible first|exact HB.out|apply zbA|apply zbN|apply zb1|refine zbS ?_ GE431.out)|exact HB.out)) hb);have n2_:=Z0.mk (hbox);have n3_:=Z0.mk ((by rw [hg];exact (below_size (by repeat (first|(with_reducible first|exact HB.out|apply zbA|apply zbN|apply zb1|refine zbS ?_ GE431.out)|exact HB.out))) : w.heap.size≤gb432));have n4_:=Z0.mk ((by rw [hg];exact (below_size (by repeat (first|(with_reducible first|exact HB.out|apply zbA|apply zbN|apply zb1|refine zbS ?_ GE431.out)|exact HB.out))) : w.heap.size≤gb432));have n5_:=Z0.mk ((by rw [hg];exact Nat.ne_of_lt (blk_lt (g:=gb431) (o:=.cells #[.string a0_0,.int .i64 a0_1] 69 (0,0)) (by (with_reducible repeat (first|refine zkN ?_ _|refine zkD ?_|refine zkA ?_ _));exact BK431.out)) : gb431 ≠ gb432));have n6_:=Z0.mk ((by rw [hg];exact Nat.ne_of_gt (blk_lt (g:=gb431) (o:=.cells #[.string a0_0,.int .i64 a0_1] 69 (0,0)) (by (with_reducible repeat (first|refine zkN ?_ _|refine zkD ?_|refine zkA ?_ _));exact BK431.out)) : gb432 ≠ gb431));clear BK431;clear HB;have BK431:=n0_;have HB:=n1_;have BK432:=n2_;have GW432:=n3_;have GE432:=n4_;have NB431_432:=n5_;have NB432_431:=n6_;clear n0_ n1_ n2_ n3_ n4_ n5_ n6_;clear hb hbox hg;have hnb33:=NB431_432.out;have hnc33:=NB432_431.out;have hcz34_0 : w32.cell? ⟨gb431,0,none⟩=some (.string a0_0):=(zkC BK431.out 0).trans rfl;have hcz34_1 : w32.cell? ⟨gb431,1,none⟩=some (.int .i64 a0_1):=(zkC BK431.out 1).trans rfl;have hfz34_0:=zkF BK431.out 0;have hfz34_1:=zkF BK431.out 1)|((with_reducible refine gate_callee (f:=70) rfl ?_);refine goesL_ (some 10) rfl rfl Try.func70 (by kernel_rfl) rfl #[.agg #[.string a0_0,.int .i64 a0_1]] rfl (by (try simp only [List.map_toArray,List.map_cons,List.map_nil]);first|done|rfl|(simp only [List.length_drop,List.length_take];rfl)) ?_;(with_reducible refine (q1ReadNumber.calls k a0_0 a0_1 t433 t434 t435 _ A3.out).mono ?_);rintro e w35 ⟨rfl,hb⟩;refine ⟨_,rfl,?_⟩;have n0_:=Z0.mk (blk_below (g:=gb431) (o:=.cells #[.string a0_0,.int .i64 a0_1] 69 (0,0)) (by (with_reducible repeat (first|refine zkN ?_ _|refine zkD ?_|refine zkA ?_ _));exact BK431.out) hb);have n1_:=Z0.mk (blk_below (g:=gb432) (o:=.cells #[.string (⟨#[]⟩:ByteArray),.int .i64 0] 69 (0,0)) (by (with_reducible repeat (first|refine zkN ?_ _|refine zkD ?_|refine zkA ?_ _));exact BK432.out) hb);have n2_:=Z0.mk (below_step (by repeat (first|(with_reducible first|exact HB.out|apply zbA|apply zbN|apply zb1|refine zbS ?_ GE431.out|refine zbS ?_ GE432.out)|exact HB.out)) hb);clear BK431;clear BK432;clear HB;have BK431:=n0_;have BK432:=n1_;have HB:=n2_;clear n0_ n1_ n2_;(try clear hb);(try clear hb2);(try clear hk);(try clear hi))|((with_reducible refine gate_dst (N:=7) rfl ?_);refine box_event ?hg (N:=7) ?hd (cs:=#[.string (⟨#[]⟩:ByteArray),.int .i64 0]) (t:=69) ?hr ?_;(case hd=>rfl);(case hg=>rfl);(case hr=>first|(go_simp;done)|(go_simp;rfl));intro gb436 hg w36 hbox hb;have n0_:=Z0.mk (blk_below (g:=gb431) (o:=.cells #[.string a0_0,.int .i64 a0_1] 69 (0,0)) (by (with_reducible repeat (first|refine zkN ?_ _|refine zkD ?_|refine zkA ?_ _));exact BK431.out) hb);have n1_:=Z0.mk (blk_below (g:=gb432) (o:=.cells #[.string (⟨#[]⟩:ByteArray),.int .i64 0] 69 (0,0)) (by (with_reducible repeat (first|refine zkN ?_ _|refine zkD ?_|refine zkA ?_ _));exact BK432.out) hb);have n2_:=Z0.mk (below_step (by repeat (first|(with_reducible first|exact HB.out|apply zbA|apply zbN|apply zb1|refine zbS ?_ GE431.out|refine zbS ?_ GE432.out)|exact HB.out)) hb);have n3_:=Z0.mk (hbox);have n4_:=Z0.mk ((by rw [hg];exact (below_size (by repeat (first|(with_reducible first|exact HB.out|apply zbA|apply zbN|apply zb1|refine zbS ?_ GE431.out|refine zbS ?_ GE432.out)|exact HB.out))) : w.heap.size≤gb436));have n5_:=Z0.mk ((by rw [hg];exact (below_size (by repeat (first|(with_reducible first|exact HB.out|apply zbA|apply zbN|apply zb1|refine zbS ?_ GE431.out|refine zbS ?_ GE432.out)|exact HB.out))) : w.heap.size≤gb436));have n6_:=Z0.mk ((by rw [hg];exact Nat.ne_of_lt (blk_lt (g:=gb431) (o:=.cells #[.string a0_0,.int .i64 a0_1] 69 (0,0)) (by (with_reducible repeat (first|refine zkN ?_ _|refine zkD ?_|refine zkA ?_ _));exact BK431.out)) : gb431 ≠ gb436));have n7_:=Z0.mk ((by rw [hg];exact Nat.ne_of_gt (blk_lt (g:=gb431) (o:=.cells #[.string a0_0,.int .i64 a0_1] 69 (0,0)) (by (with_reducible repeat (first|refine zkN ?_ _|refine zkD ?_|refine zkA ?_ _));exact BK431.out)) : gb436 ≠ gb431));have n8_:=Z0.mk ((by rw [hg];exact Nat.ne_of_lt (blk_lt (g:=gb432) (o:=.cells #[.string (⟨#[]⟩:ByteArray),.int .i64 0] 69 (0,0)) (by (with_reducible repeat (first|refine zkN ?_ _|refine zkD ?_|refine zkA ?_ _));exact BK432.out)) : gb432 ≠ gb436));have n9_:=Z0.mk ((by rw [hg];exact Nat.ne_of_gt (blk_lt (g:=gb432) (o:=.cells #[.string (⟨#[]⟩:ByteArray),.int .i64 0] 69 (0,0)) (by (with_reducible repeat (first|refine zkN ?_ _|refine zkD ?_|refine zkA ?_ _));exact BK432.out)) : gb436 ≠ gb432));clear BK431;clear BK432;clear HB;have BK431:=n0_;have BK432:=n1_;have HB:=n2_;have BK436:=n3_;have GW436:=n4_;have GE436:=n5_;have NB431_436:=n6_;have NB436_431:=n7_;have NB432_436:=n8_;have NB436_432:=n9_;clear n0_ n1_ n2_ n3_ n4_ n5_ n6_ n7_ n8_ n9_;clear hb hbox hg;have hnb37:=NB436_431.out;have hnc37:=NB431_436.out;have hnb38:=NB436_432.out;have hnc38:=NB432_436.out;have hcz39_0 : w36.cell? ⟨gb436,0,none⟩=some (.string (⟨#[]⟩:ByteArray)):=(zkC BK436.out 0).trans rfl;have hcz39_1 : w36.cell? ⟨gb436,1,none⟩=some (.int .i64 0):=(zkC BK436.out 1).trans rfl;have hfz39_0:=zkF BK436.out 0;have hfz39_1:=zkF BK436.out 1))
  have n0_:Z0 (((w36.setCell ⟨gb436,0,none⟩ (.string t434)).setCell ⟨gb436,1,none⟩ (.int .i64 t435)).heap[gb431]?=some (.cells #[.string a0_0,.int .i64 a0_1] 69 (0,0))):=⟨by (with_reducible repeat (first|refine zkN ?_ _|refine zkD ?_|refine zkA ?_ _));refine blk_far ?_ NB431_436.out _;(with_reducible repeat (first|refine zkN ?_ _|refine zkD ?_|refine zkA ?_ _));refine blk_far ?_ NB431_436.out _;(with_reducible repeat (first|refine zkN ?_ _|refine zkD ?_|refine zkA ?_ _));exact BK431.out⟩
  have n1_:Z0 (((w36.setCell ⟨gb436,0,none⟩ (.string t434)).setCell ⟨gb436,1,none⟩ (.int .i64 t435)).heap[gb432]?=some (.cells #[.string (⟨#[]⟩:ByteArray),.int .i64 0] 69 (0,0))):=⟨by (with_reducible repeat (first|refine zkN ?_ _|refine zkD ?_|refine zkA ?_ _));refine blk_far ?_ NB432_436.out _;(with_reducible repeat (first|refine zkN ?_ _|refine zkD ?_|refine zkA ?_ _));refine blk_far ?_ NB432_436.out _;(with_reducible repeat (first|refine zkN ?_ _|refine zkD ?_|refine zkA ?_ _));exact BK432.out⟩
  have n2_:Z0 (((w36.setCell ⟨gb436,0,none⟩ (.string t434)).setCell ⟨gb436,1,none⟩ (.int .i64 t435)).heap[gb436]?=some (.cells #[.string t434,.int .i64 t435] 69 (0,0))):=⟨by (with_reducible repeat (first|refine zkN ?_ _|refine zkD ?_|refine zkA ?_ _));refine blk_put (cs:=#[.string t434,.int .i64 0]) ?_ 1 _ rfl;(with_reducible repeat (first|refine zkN ?_ _|refine zkD ?_|refine zkA ?_ _));refine blk_put (cs:=#[.string (⟨#[]⟩:ByteArray),.int .i64 0]) ?_ 0 _ rfl;(with_reducible repeat (first|refine zkN ?_ _|refine zkD ?_|refine zkA ?_ _));exact BK436.out⟩
  have n3_:Z0 (Below w.heap.size w ((w36.setCell ⟨gb436,0,none⟩ (.string t434)).setCell ⟨gb436,1,none⟩ (.int .i64 t435))):=⟨by repeat (first|(with_reducible first|exact HB.out|apply zbA|apply zbN|apply zb1|refine zbS ?_ GE431.out|refine zbS ?_ GE432.out|refine zbS ?_ GE436.out)|exact HB.out)⟩
  (try clear BK431)
  (try clear BK432)
  (try clear BK436)
  (try clear HB)
  generalize ((w36.setCell ⟨gb436,0,none⟩ (.string t434)).setCell ⟨gb436,1,none⟩ (.int .i64 t435))=w40 at n0_ n1_ n2_ n3_ ⊢
  have BK431:=n0_
  have BK432:=n1_
  have BK436:=n2_
  have HB:=n3_
  clear n0_ n1_ n2_ n3_
  have n0_:=Z0.mk (zkD BK431.out)
  have n1_:=Z0.mk (zkD BK432.out)
  have n2_:=Z0.mk (zkD BK436.out)
  have n3_:=Z0.mk (zb1 HB.out)
  clear BK431
  clear BK432
  clear BK436
  clear HB
  have BK431:=n0_
  have BK432:=n1_
  have BK436:=n2_
  have HB:=n3_
  clear n0_ n1_ n2_ n3_
  refine start_ (n:=5) (S:=fun w'=>w'.cell? ⟨gb436,0,none⟩=some (.string t434)∧w'.cell? ⟨gb436,1,none⟩=some (.int .i64 t435)) (ds:=[]) #[false,false,false,false,false] (by kernel_rfl) rfl rfl ⟨(zkC BK436.out 0).trans rfl,(zkC BK436.out 1).trans rfl⟩ (fun hHeld=>?_)
  generalize w40.drew=w41 at BK431 BK432 BK436 HB hHeld ⊢
  refine pure_ (i:=0) (N:=some 27) (v:=?_) (a':=?_) #[true,false,false,false,false] rfl rfl (by kernel_rfl) (fun _ _ _ h=>h) (Or.inl ⟨by rfl,?_⟩) ?_ ?_
  rotate_left
  ·intro w'
   go_simp
   with_reducible rfl
  rotate_left
  ·simp only [Act.put,List.setIfInBounds_toArray,List.set_cons_zero,List.set_cons_succ,i64_w,i32_w]
   rfl
  refine pure_ (i:=1) (N:=some 28) (v:=?_) (a':=?_) #[true,true,false,false,false] rfl rfl (by kernel_rfl) (fun _ _ _ h=>h) (Or.inl ⟨by rfl,?_⟩) ?_ ?_
  rotate_left
  ·intro w'
   go_simp
   with_reducible rfl
  rotate_left
  ·simp only [Act.put,List.setIfInBounds_toArray,List.set_cons_zero,List.set_cons_succ,i64_w,i32_w]
   rfl
  refine pure_ (i:=3) (N:=some 4) (v:=?_) (a':=?_) #[true,true,false,true,false] rfl rfl (by kernel_rfl) (fun _ _ _ h=>h) (Or.inl ⟨by rfl,?_⟩) ?_ ?_
  rotate_left
  ·intro w'
   go_simp
   with_reducible rfl
  rotate_left
  ·simp only [Act.put,List.setIfInBounds_toArray,List.set_cons_zero,List.set_cons_succ,i64_w,i32_w]
   rfl
  refine take_ (i:=2) (N:=some 29) (v:=?_) (a':=?_) #[true,true,true,true,false] rfl rfl (by kernel_rfl) (fun _ _ _ h=>h) (Or.inl ⟨by rfl,?_⟩) hHeld ?_ ?_
  rotate_left
  ·rintro w' ⟨s0,s1⟩
   go_simp
   with_reducible rfl
  rotate_left
  ·simp only [Act.put,List.setIfInBounds_toArray,List.set_cons_zero,List.set_cons_succ,i64_w,i32_w]
   rfl
  refine one_ (i:=4) (N:=none) #[true,true,true,true,true] rfl rfl (by kernel_rfl) (by decide) (fun K hK=>?_)
  have hs42 : w41.cell? ⟨gb432,0,none⟩=some (.string (⟨#[]⟩:ByteArray)):=(zkC BK432.out 0).trans rfl
  have hfs42:=zkF BK432.out 0
  have hns42_0:=NB431_432.out
  have hns42_2:=NB436_432.out
  have hms42_0:=NB432_431.out
  have hms42_2:=NB432_436.out
  have hs43 : w41.cell? ⟨gb432,1,none⟩=some (.int .i64 0):=(zkC BK432.out 1).trans rfl
  have hfs43:=zkF BK432.out 1
  have hns43_0:=NB431_432.out
  have hns43_2:=NB436_432.out
  have hms43_0:=NB432_431.out
  have hms43_2:=NB432_436.out
  refine skip_ (w1:=?_) (by rfl) rfl ?_ ?_
  rotate_left
  ·go_simp
   rfl
  refine hK.out _ _ ⟨((cell_far (p:=⟨gb432,_,none⟩) NB436_432.out _).trans (((cell_far (p:=⟨gb432,_,none⟩) NB436_432.out _).trans (hHeld.1)))),((cell_far (p:=⟨gb432,_,none⟩) NB436_432.out _).trans (((cell_far (p:=⟨gb432,_,none⟩) NB436_432.out _).trans (hHeld.2))))⟩ (fun hHeld=>?_)
  clear hK K
  refine done_ (by kernel_rfl) ?_
  try go_wp2
  refine bodyPost_ret (results_tc rfl _ _ gb432 69 #[.string t434,.int .i64 t435] (0,0) _ rfl (by (with_reducible repeat (first|refine zkN ?_ _|refine zkD ?_|refine zkA ?_ _));refine blk_put (cs:=#[.string t434,.int .i64 0]) ?_ 1 _ rfl;(with_reducible repeat (first|refine zkN ?_ _|refine zkD ?_|refine zkA ?_ _));refine blk_put (cs:=#[.string (⟨#[]⟩:ByteArray),.int .i64 0]) ?_ 0 _ rfl;(with_reducible repeat (first|refine zkN ?_ _|refine zkD ?_|refine zkA ?_ _));exact BK432.out) Try.underlying69 rfl (by kernel_rfl)) rfl ?_
  exact ⟨by first|rfl|(simp [errW_none,errW_some] <;> rfl)|(simp [*,errW_none,errW_some] <;> rfl),by repeat (first|(with_reducible first|exact HB.out|apply zbA|apply zbN|apply zb1|refine zbS ?_ GE431.out|refine zbS ?_ GE432.out|refine zbS ?_ GE436.out)|exact HB.out)⟩
 rw [if_neg c4] at H
 have c4b0:(t435 == 0)=false:=beq_eq_false_iff_ne.mpr c4
 have c4b1:(t435 != 0)=true:=bne_iff_ne.mpr c4
 simp only [Option.some.injEq,Prod.mk.injEq] at H
 obtain ⟨rfl,rfl,rfl⟩:=H
 go_enter Try.func77,Try.ntmps77
 try go_wp2_with (first|((with_reducible refine gate_dst (N:=2) rfl ?_);refine box_event ?hg (N:=2) ?hd (cs:=#[.string a0_0,.int .i64 a0_1]) (t:=69) ?hr ?_;(case hd=>rfl);(case hg=>rfl);(case hr=>first|(go_simp;done)|(go_simp;rfl));intro gb431 hg w44 hbox hb;have n0_:=Z0.mk (below_step (by repeat (first|(with_reducible first|exact HB.out|apply zbA|apply zbN|apply zb1)|exact HB.out)) hb);have n1_:=Z0.mk (hbox);have n2_:=Z0.mk ((by rw [hg];exact (below_size (by repeat (first|(with_reducible first|exact HB.out|apply zbA|apply zbN|apply zb1)|exact HB.out))) : w.heap.size≤gb431));have n3_:=Z0.mk ((by rw [hg];exact (below_size (by repeat (first|(with_reducible first|exact HB.out|apply zbA|apply zbN|apply zb1)|exact HB.out))) : w.heap.size≤gb431));clear HB;have HB:=n0_;have BK431:=n1_;have GW431:=n2_;have GE431:=n3_;clear n0_ n1_ n2_ n3_;clear hb hbox hg)|((with_reducible refine gate_dst (N:=5) rfl ?_);refine box_event ?hg (N:=5) ?hd (cs:=#[.string (⟨#[]⟩:ByteArray),.int .i64 0]) (t:=69) ?hr ?_;(case hd=>rfl);(case hg=>rfl);(case hr=>first|(go_simp;done)|(go_simp;rfl));intro gb432 hg w45 hbox hb;have n0_:=Z0.mk (blk_below (g:=gb431) (o:=.cells #[.string a0_0,.int .i64 a0_1] 69 (0,0)) (by (with_reducible repeat (first|refine zkN ?_ _|refine zkD ?_|refine zkA ?_ _));exact BK431.out) hb);have n1_:=Z0.mk (below_step (by repeat (first|(with_reducible first|exact HB.out|apply zbA|apply zbN|apply zb1|refine zbS ?_ GE431.out)|exact HB.out)) hb);have n2_:=Z0.mk (hbox);have n3_:=Z0.mk ((by rw [hg];exact (below_size (by repeat (first|(with_reducible first|exact HB.out|apply zbA|apply zbN|apply zb1|refine zbS ?_ GE431.out)|exact HB.out))) : w.heap.size≤gb432));have n4_:=Z0.mk ((by rw [hg];exact (below_size (by repeat (first|(with_reducible first|exact HB.out|apply zbA|apply zbN|apply zb1|refine zbS ?_ GE431.out)|exact HB.out))) : w.heap.size≤gb432));have n5_:=Z0.mk ((by rw [hg];exact Nat.ne_of_lt (blk_lt (g:=gb431) (o:=.cells #[.string a0_0,.int .i64 a0_1] 69 (0,0)) (by (with_reducible repeat (first|refine zkN ?_ _|refine zkD ?_|refine zkA ?_ _));exact BK431.out)) : gb431 ≠ gb432));have n6_:=Z0.mk ((by rw [hg];exact Nat.ne_of_gt (blk_lt (g:=gb431) (o:=.cells #[.string a0_0,.int .i64 a0_1] 69 (0,0)) (by (with_reducible repeat (first|refine zkN ?_ _|refine zkD ?_|refine zkA ?_ _));exact BK431.out)) : gb432 ≠ gb431));clear BK431;clear HB;have BK431:=n0_;have HB:=n1_;have BK432:=n2_;have GW432:=n3_;have GE432:=n4_;have NB431_432:=n5_;have NB432_431:=n6_;clear n0_ n1_ n2_ n3_ n4_ n5_ n6_;clear hb hbox hg;have hnb46:=NB431_432.out;have hnc46:=NB432_431.out;have hcz47_0 : w45.cell? ⟨gb431,0,none⟩=some (.string a0_0):=(zkC BK431.out 0).trans rfl;have hcz47_1 : w45.cell? ⟨gb431,1,none⟩=some (.int .i64 a0_1):=(zkC BK431.out 1).trans rfl;have hfz47_0:=zkF BK431.out 0;have hfz47_1:=zkF BK431.out 1)|((with_reducible refine gate_callee (f:=70) rfl ?_);refine goesL_ (some 10) rfl rfl Try.func70 (by kernel_rfl) rfl #[.agg #[.string a0_0,.int .i64 a0_1]] rfl (by (try simp only [List.map_toArray,List.map_cons,List.map_nil]);first|done|rfl|(simp only [List.length_drop,List.length_take];rfl)) ?_;(with_reducible refine (q1ReadNumber.calls k a0_0 a0_1 t433 t434 t435 _ A3.out).mono ?_);rintro e w48 ⟨rfl,hb⟩;refine ⟨_,rfl,?_⟩;have n0_:=Z0.mk (blk_below (g:=gb431) (o:=.cells #[.string a0_0,.int .i64 a0_1] 69 (0,0)) (by (with_reducible repeat (first|refine zkN ?_ _|refine zkD ?_|refine zkA ?_ _));exact BK431.out) hb);have n1_:=Z0.mk (blk_below (g:=gb432) (o:=.cells #[.string (⟨#[]⟩:ByteArray),.int .i64 0] 69 (0,0)) (by (with_reducible repeat (first|refine zkN ?_ _|refine zkD ?_|refine zkA ?_ _));exact BK432.out) hb);have n2_:=Z0.mk (below_step (by repeat (first|(with_reducible first|exact HB.out|apply zbA|apply zbN|apply zb1|refine zbS ?_ GE431.out|refine zbS ?_ GE432.out)|exact HB.out)) hb);clear BK431;clear BK432;clear HB;have BK431:=n0_;have BK432:=n1_;have HB:=n2_;clear n0_ n1_ n2_;(try clear hb);(try clear hb2);(try clear hk);(try clear hi))|((with_reducible refine gate_dst (N:=7) rfl ?_);refine box_event ?hg (N:=7) ?hd (cs:=#[.string (⟨#[]⟩:ByteArray),.int .i64 0]) (t:=69) ?hr ?_;(case hd=>rfl);(case hg=>rfl);(case hr=>first|(go_simp;done)|(go_simp;rfl));intro gb436 hg w49 hbox hb;have n0_:=Z0.mk (blk_below (g:=gb431) (o:=.cells #[.string a0_0,.int .i64 a0_1] 69 (0,0)) (by (with_reducible repeat (first|refine zkN ?_ _|refine zkD ?_|refine zkA ?_ _));exact BK431.out) hb);have n1_:=Z0.mk (blk_below (g:=gb432) (o:=.cells #[.string (⟨#[]⟩:ByteArray),.int .i64 0] 69 (0,0)) (by (with_reducible repeat (first|refine zkN ?_ _|refine zkD ?_|refine zkA ?_ _));exact BK432.out) hb);have n2_:=Z0.mk (below_step (by repeat (first|(with_reducible first|exact HB.out|apply zbA|apply zbN|apply zb1|refine zbS ?_ GE431.out|refine zbS ?_ GE432.out)|exact HB.out)) hb);have n3_:=Z0.mk (hbox);have n4_:=Z0.mk ((by rw [hg];exact (below_size (by repeat (first|(with_reducible first|exact HB.out|apply zbA|apply zbN|apply zb1|refine zbS ?_ GE431.out|refine zbS ?_ GE432.out)|exact HB.out))) : w.heap.size≤gb436));have n5_:=Z0.mk ((by rw [hg];exact (below_size (by repeat (first|(with_reducible first|exact HB.out|apply zbA|apply zbN|apply zb1|refine zbS ?_ GE431.out|refine zbS ?_ GE432.out)|exact HB.out))) : w.heap.size≤gb436));have n6_:=Z0.mk ((by rw [hg];exact Nat.ne_of_lt (blk_lt (g:=gb431) (o:=.cells #[.string a0_0,.int .i64 a0_1] 69 (0,0)) (by (with_reducible repeat (first|refine zkN ?_ _|refine zkD ?_|refine zkA ?_ _));exact BK431.out)) : gb431 ≠ gb436));have n7_:=Z0.mk ((by rw [hg];exact Nat.ne_of_gt (blk_lt (g:=gb431) (o:=.cells #[.string a0_0,.int .i64 a0_1] 69 (0,0)) (by (with_reducible repeat (first|refine zkN ?_ _|refine zkD ?_|refine zkA ?_ _));exact BK431.out)) : gb436 ≠ gb431));have n8_:=Z0.mk ((by rw [hg];exact Nat.ne_of_lt (blk_lt (g:=gb432) (o:=.cells #[.string (⟨#[]⟩:ByteArray),.int .i64 0] 69 (0,0)) (by (with_reducible repeat (first|refine zkN ?_ _|refine zkD ?_|refine zkA ?_ _));exact BK432.out)) : gb432 ≠ gb436));have n9_:=Z0.mk ((by rw [hg];exact Nat.ne_of_gt (blk_lt (g:=gb432) (o:=.cells #[.string (⟨#[]⟩:ByteArray),.int .i64 0] 69 (0,0)) (by (with_reducible repeat (first|refine zkN ?_ _|refine zkD ?_|refine zkA ?_ _));exact BK432.out)) : gb436 ≠ gb432));clear BK431;clear BK432;clear HB;have BK431:=n0_;have BK432:=n1_;have HB:=n2_;have BK436:=n3_;have GW436:=n4_;have GE436:=n5_;have NB431_436:=n6_;have NB436_431:=n7_;have NB432_436:=n8_;have NB436_432:=n9_;clear n0_ n1_ n2_ n3_ n4_ n5_ n6_ n7_ n8_ n9_;clear hb hbox hg;have hnb50:=NB436_431.out;have hnc50:=NB431_436.out;have hnb51:=NB436_432.out;have hnc51:=NB432_436.out;have hcz52_0 : w49.cell? ⟨gb436,0,none⟩=some (.string (⟨#[]⟩:ByteArray)):=(zkC BK436.out 0).trans rfl;have hcz52_1 : w49.cell? ⟨gb436,1,none⟩=some (.int .i64 0):=(zkC BK436.out 1).trans rfl;have hfz52_0:=zkF BK436.out 0;have hfz52_1:=zkF BK436.out 1))
 have n0_:Z0 (((w49.setCell ⟨gb436,0,none⟩ (.string t434)).setCell ⟨gb436,1,none⟩ (.int .i64 t435)).heap[gb431]?=some (.cells #[.string a0_0,.int .i64 a0_1] 69 (0,0))):=⟨by (with_reducible repeat (first|refine zkN ?_ _|refine zkD ?_|refine zkA ?_ _));refine blk_far ?_ NB431_436.out _;(with_reducible repeat (first|refine zkN ?_ _|refine zkD ?_|refine zkA ?_ _));refine blk_far ?_ NB431_436.out _;(with_reducible repeat (first|refine zkN ?_ _|refine zkD ?_|refine zkA ?_ _));exact BK431.out⟩
 have n1_:Z0 (((w49.setCell ⟨gb436,0,none⟩ (.string t434)).setCell ⟨gb436,1,none⟩ (.int .i64 t435)).heap[gb432]?=some (.cells #[.string (⟨#[]⟩:ByteArray),.int .i64 0] 69 (0,0))):=⟨by (with_reducible repeat (first|refine zkN ?_ _|refine zkD ?_|refine zkA ?_ _));refine blk_far ?_ NB432_436.out _;(with_reducible repeat (first|refine zkN ?_ _|refine zkD ?_|refine zkA ?_ _));refine blk_far ?_ NB432_436.out _;(with_reducible repeat (first|refine zkN ?_ _|refine zkD ?_|refine zkA ?_ _));exact BK432.out⟩
 have n2_:Z0 (((w49.setCell ⟨gb436,0,none⟩ (.string t434)).setCell ⟨gb436,1,none⟩ (.int .i64 t435)).heap[gb436]?=some (.cells #[.string t434,.int .i64 t435] 69 (0,0))):=⟨by (with_reducible repeat (first|refine zkN ?_ _|refine zkD ?_|refine zkA ?_ _));refine blk_put (cs:=#[.string t434,.int .i64 0]) ?_ 1 _ rfl;(with_reducible repeat (first|refine zkN ?_ _|refine zkD ?_|refine zkA ?_ _));refine blk_put (cs:=#[.string (⟨#[]⟩:ByteArray),.int .i64 0]) ?_ 0 _ rfl;(with_reducible repeat (first|refine zkN ?_ _|refine zkD ?_|refine zkA ?_ _));exact BK436.out⟩
 have n3_:Z0 (Below w.heap.size w ((w49.setCell ⟨gb436,0,none⟩ (.string t434)).setCell ⟨gb436,1,none⟩ (.int .i64 t435))):=⟨by repeat (first|(with_reducible first|exact HB.out|apply zbA|apply zbN|apply zb1|refine zbS ?_ GE431.out|refine zbS ?_ GE432.out|refine zbS ?_ GE436.out)|exact HB.out)⟩
 (try clear BK431)
 (try clear BK432)
 (try clear BK436)
 (try clear HB)
 generalize ((w49.setCell ⟨gb436,0,none⟩ (.string t434)).setCell ⟨gb436,1,none⟩ (.int .i64 t435))=w53 at n0_ n1_ n2_ n3_ ⊢
 have BK431:=n0_
 have BK432:=n1_
 have BK436:=n2_
 have HB:=n3_
 clear n0_ n1_ n2_ n3_
 have n0_:=Z0.mk (zkD BK431.out)
 have n1_:=Z0.mk (zkD BK432.out)
 have n2_:=Z0.mk (zkD BK436.out)
 have n3_:=Z0.mk (zb1 HB.out)
 clear BK431
 clear BK432
 clear BK436
 clear HB
 have BK431:=n0_
 have BK432:=n1_
 have BK436:=n2_
 have HB:=n3_
 clear n0_ n1_ n2_ n3_
 refine start_ (n:=5) (S:=fun w'=>w'.cell? ⟨gb436,0,none⟩=some (.string t434)∧w'.cell? ⟨gb436,1,none⟩=some (.int .i64 t435)) (ds:=[]) #[false,false,false,false,false] (by kernel_rfl) rfl rfl ⟨(zkC BK436.out 0).trans rfl,(zkC BK436.out 1).trans rfl⟩ (fun hHeld=>?_)
 generalize w53.drew=w54 at BK431 BK432 BK436 HB hHeld ⊢
 refine pure_ (i:=0) (N:=some 27) (v:=?_) (a':=?_) #[true,false,false,false,false] rfl rfl (by kernel_rfl) (fun _ _ _ h=>h) (Or.inl ⟨by rfl,?_⟩) ?_ ?_
 rotate_left
 ·intro w'
  go_simp
  with_reducible rfl
 rotate_left
 ·simp only [Act.put,List.setIfInBounds_toArray,List.set_cons_zero,List.set_cons_succ,i64_w,i32_w]
  rfl
 refine pure_ (i:=1) (N:=some 28) (v:=?_) (a':=?_) #[true,true,false,false,false] rfl rfl (by kernel_rfl) (fun _ _ _ h=>h) (Or.inl ⟨by rfl,?_⟩) ?_ ?_
 rotate_left
 ·intro w'
  go_simp
  with_reducible rfl
 rotate_left
 ·simp only [Act.put,List.setIfInBounds_toArray,List.set_cons_zero,List.set_cons_succ,i64_w,i32_w]
  rfl
 refine pure_ (i:=3) (N:=some 4) (v:=?_) (a':=?_) #[true,true,false,true,false] rfl rfl (by kernel_rfl) (fun _ _ _ h=>h) (Or.inl ⟨by rfl,?_⟩) ?_ ?_
 rotate_left
 ·intro w'
  go_simp
  with_reducible rfl
 rotate_left
 ·simp only [Act.put,List.setIfInBounds_toArray,List.set_cons_zero,List.set_cons_succ,i64_w,i32_w]
  rfl
 refine take_ (i:=2) (N:=some 29) (v:=?_) (a':=?_) #[true,true,true,true,false] rfl rfl (by kernel_rfl) (fun _ _ _ h=>h) (Or.inl ⟨by rfl,?_⟩) hHeld ?_ ?_
 rotate_left
 ·rintro w' ⟨s0,s1⟩
  go_simp
  with_reducible rfl
 rotate_left
 ·simp only [Act.put,List.setIfInBounds_toArray,List.set_cons_zero,List.set_cons_succ,i64_w,i32_w]
  rfl
 refine one_ (i:=4) (N:=none) #[true,true,true,true,true] rfl rfl (by kernel_rfl) (by decide) (fun K hK=>?_)
 have hs55 : w54.cell? ⟨gb432,0,none⟩=some (.string (⟨#[]⟩:ByteArray)):=(zkC BK432.out 0).trans rfl
 have hfs55:=zkF BK432.out 0
 have hns55_0:=NB431_432.out
 have hns55_2:=NB436_432.out
 have hms55_0:=NB432_431.out
 have hms55_2:=NB432_436.out
 have hs56 : w54.cell? ⟨gb432,1,none⟩=some (.int .i64 0):=(zkC BK432.out 1).trans rfl
 have hfs56:=zkF BK432.out 1
 have hns56_0:=NB431_432.out
 have hns56_2:=NB436_432.out
 have hms56_0:=NB432_431.out
 have hms56_2:=NB432_436.out
 refine skip_ (w1:=?_) (by rfl) rfl ?_ ?_
 rotate_left
 ·go_simp
  rfl
 refine hK.out _ _ ⟨((cell_far (p:=⟨gb432,_,none⟩) NB436_432.out _).trans (((cell_far (p:=⟨gb432,_,none⟩) NB436_432.out _).trans (hHeld.1)))),((cell_far (p:=⟨gb432,_,none⟩) NB436_432.out _).trans (((cell_far (p:=⟨gb432,_,none⟩) NB436_432.out _).trans (hHeld.2))))⟩ (fun hHeld=>?_)
 clear hK K
 refine done_ (by kernel_rfl) ?_
 try go_wp2
 refine bodyPost_ret (results_tc rfl _ _ gb432 69 #[.string t434,.int .i64 t435] (0,0) _ rfl (by (with_reducible repeat (first|refine zkN ?_ _|refine zkD ?_|refine zkA ?_ _));refine blk_put (cs:=#[.string t434,.int .i64 0]) ?_ 1 _ rfl;(with_reducible repeat (first|refine zkN ?_ _|refine zkD ?_|refine zkA ?_ _));refine blk_put (cs:=#[.string (⟨#[]⟩:ByteArray),.int .i64 0]) ?_ 0 _ rfl;(with_reducible repeat (first|refine zkN ?_ _|refine zkD ?_|refine zkA ?_ _));exact BK432.out) Try.underlying69 rfl (by kernel_rfl)) rfl ?_
 exact ⟨by first|rfl|(simp [errW_none,errW_some] <;> rfl)|(simp [*,errW_none,errW_some] <;> rfl),by repeat (first|(with_reducible first|exact HB.out|apply zbA|apply zbN|apply zb1|refine zbS ?_ GE431.out|refine zbS ?_ GE432.out|refine zbS ?_ GE436.out)|exact HB.out)⟩
end Go.Proofs.Ytegefemkmdlmaaa.P
