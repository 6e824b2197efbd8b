import Derived.Test.YtegefemkmdlmaaaF0
import Derived.Test.YtegefemkmdlmaaaQd
import Derived.Lib.Hide
import Derived.Outline
import Derived.Deep.RegionHeld3
import Derived.Test.YtegefemkmdlmaaaQa
section
namespace Go.Proofs.Ytegefemkmdlmaaa.P
open Go.RowKit Go.Proofs.YtegefemkmdlmaaaW.PrintWords Go.Proofs.YtegefemkmdlmaaaW.PrintLast Go.Proofs.YtegefemkmdlmaaaW.PrintMore
attribute [local go_sem] max2_int min2_int max_two min_two max_three min_three max_four min_four
set_option linter.unusedVariables false
set_option linter.unusedSimpArgs false
def label_Equal.f (k:Nat) (a0_0:Int) (a0_1:Int) (a0_2:ByteArray) (a0_3:ByteArray) (l0_4:List (S103)) (a1_0:Int) (a1_1:Int) (a1_2:ByteArray) (a1_3:ByteArray) (l1_4:List (S103)):Option (Bool):=if a0_0=a1_0 then (if a0_1=a1_1 then (if a0_2.toList=a1_2.toList then (if a0_3.toList=a1_3.toList then ((api_Run.f k l0_4 l1_4).bind fun t363=>(some t363)) else (some false)) else (some false)) else (some false)) else (some false)
theorem label_Equal.mono:∀ a0 a1 a2 a3 a4 a5 a6 a7 a8 a9 k,LeO (label_Equal.f k a0 a1 a2 a3 a4 a5 a6 a7 a8 a9) (label_Equal.f (k + 1) a0 a1 a2 a3 a4 a5 a6 a7 a8 a9):=by
 intro a0 a1 a2 a3 a4 a5 a6 a7 a8 a9 k
 unfold label_Equal.f
 repeat' first
   | (with_reducible exact api_Run.mono _ _ _)
   | (with_reducible exact LeO.refl _)
   | (with_reducible exact LeO.none _)
   | (with_reducible refine LeO.ite ?_ ?_)
   | (with_reducible refine LeO.bind ?_ (fun _=>?_))
   | exact api_Run.mono _ _ _
   | exact LeO.none _
   | refine LeO.ite ?_ ?_
   | refine LeO.bind ?_ (fun _=>?_)
set_option maxHeartbeats 8000000 in
set_option maxRecDepth 100000 in
theorem label_Equal.calls (k:Nat) (a0_0:Int) (a0_1:Int) (a0_2:ByteArray) (a0_3:ByteArray) (A0_4:Option Addr) (c0_4:Nat) (l0_4:List (S103)) (a1_0:Int) (a1_1:Int) (a1_2:ByteArray) (a1_3:ByteArray) (A1_4:Option Addr) (c1_4:Nat) (l1_4:List (S103)) (r:Bool) (w:World) (hr0_4:Kd.C k103 w A0_4 l0_4.length l0_4) (hc0_4 : l0_4.length≤c0_4) (hr1_4:Kd.C k103 w A1_4 l1_4.length l1_4) (hc1_4 : l1_4.length≤c1_4) (h : label_Equal.f k a0_0 a0_1 a0_2 a0_3 l0_4 a1_0 a1_1 a1_2 a1_3 l1_4=some r) :
  Calls Try.prog 60 #[.agg #[.int .i64 a0_0,.int .i64 a0_1,.string a0_2,.string a0_3,.slice A0_4 l0_4.length c0_4],.agg #[.int .i64 a1_0,.int .i64 a1_1,.string a1_2,.string a1_3,.slice A1_4 l1_4.length c1_4]] w fun e w'=>e=.returned (.bool r)∧Below w.heap.size w w':=by
 have hu55:=Try.underlying55
 have HR0_4:=Z0.mk hr0_4
 have HC0_4:=Z0.mk hc0_4
 clear hr0_4 hc0_4
 have HR1_4:=Z0.mk hr1_4
 have HC1_4:=Z0.mk hc1_4
 clear hr1_4 hc1_4
 have HB:=Z0.mk (Below.refl w.heap.size w)
 have H:(if a0_0=a1_0 then (if a0_1=a1_1 then (if a0_2.toList=a1_2.toList then (if a0_3.toList=a1_3.toList then ((api_Run.f k l0_4 l1_4).bind fun t363=>(some t363)) else (some false)) else (some false)) else (some false)) else (some false))=some r:=h
 clear h
 by_cases c3 : a0_0=a1_0
 ·rw [if_pos c3] at H
  have c3b0:(a0_0 == a1_0)=true:=beq_iff_eq.mpr c3
  have c3b1:(a0_0 != a1_0)=false:=bne_eq_false_iff_eq.mpr c3
  clear c3
  by_cases c4 : a0_1=a1_1
  ·rw [if_pos c4] at H
   have c4b0:(a0_1 == a1_1)=true:=beq_iff_eq.mpr c4
   have c4b1:(a0_1 != a1_1)=false:=bne_eq_false_iff_eq.mpr c4
   clear c4
   by_cases c5 : a0_2.toList=a1_2.toList
   ·rw [if_pos c5] at H
    have c5b0:(a0_2.toList == a1_2.toList)=true:=beq_iff_eq.mpr c5
    have c5b1:(a0_2.toList != a1_2.toList)=false:=bne_eq_false_iff_eq.mpr c5
    clear c5
    by_cases c6 : a0_3.toList=a1_3.toList
    ·rw [if_pos c6] at H
     have c6b0:(a0_3.toList == a1_3.toList)=true:=beq_iff_eq.mpr c6
     have c6b1:(a0_3.toList != a1_3.toList)=false:=bne_eq_false_iff_eq.mpr c6
     clear c6
     replace H:=Option.bind_eq_some_iff.mp H
     obtain ⟨t363,A70,H⟩:=H
     replace H:(some t363)=some r:=H
     have A7:=Z0.mk A70
     clear A70
     obtain rfl:=Option.some.inj H
     go_enter Try.func60,Try.ntmps60
     go_wp2_with (first|((with_reducible refine gate_dst (N:=2) rfl ?_);refine box_event ?hg (N:=2) ?hd (cs:=#[.int .i64 a0_0,.int .i64 a0_1,.string a0_2,.string a0_3,.slice A0_4 l0_4.length c0_4]) (t:=55) ?hr ?_;(case hd=>rfl);(case hg=>rfl);(case hr=>first|(go_simp;done)|(go_simp;rfl));intro gb361 hg w8 hbox hb;have n0_:=Z0.mk (below_step (by repeat (first|(with_reducible first|exact HB.out|apply zbA|apply zbN|apply zb1)|exact HB.out)) hb);have n1_:=Z0.mk (hbox);have n2_:=Z0.mk ((by rw [hg];exact (below_size (by repeat (first|(with_reducible first|exact HB.out|apply zbA|apply zbN|apply zb1)|exact HB.out))) : w.heap.size≤gb361));have n3_:=Z0.mk ((by rw [hg];exact (below_size (by repeat (first|(with_reducible first|exact HB.out|apply zbA|apply zbN|apply zb1)|exact HB.out))) : w.heap.size≤gb361));clear HB;have HB:=n0_;have BK361:=n1_;have GW361:=n2_;have GE361:=n3_;clear n0_ n1_ n2_ n3_;clear hb hbox hg)|((with_reducible refine gate_dst (N:=3) rfl ?_);refine box_event ?hg (N:=3) ?hd (cs:=#[.int .i64 a1_0,.int .i64 a1_1,.string a1_2,.string a1_3,.slice A1_4 l1_4.length c1_4]) (t:=55) ?hr ?_;(case hd=>rfl);(case hg=>rfl);(case hr=>first|(go_simp;done)|(go_simp;rfl));intro gb362 hg w9 hbox hb;have n0_:=Z0.mk (blk_below (g:=gb361) (o:=.cells #[.int .i64 a0_0,.int .i64 a0_1,.string a0_2,.string a0_3,.slice A0_4 l0_4.length c0_4] 55 (0,0)) (by (with_reducible repeat (first|refine zkN ?_ _|refine zkD ?_|refine zkA ?_ _));exact BK361.out) hb);have n1_:=Z0.mk (below_step (by repeat (first|(with_reducible first|exact HB.out|apply zbA|apply zbN|apply zb1|refine zbS ?_ GE361.out)|exact HB.out)) hb);have n2_:=Z0.mk (hbox);have n3_:=Z0.mk ((by rw [hg];exact (below_size (by repeat (first|(with_reducible first|exact HB.out|apply zbA|apply zbN|apply zb1|refine zbS ?_ GE361.out)|exact HB.out))) : w.heap.size≤gb362));have n4_:=Z0.mk ((by rw [hg];exact (below_size (by repeat (first|(with_reducible first|exact HB.out|apply zbA|apply zbN|apply zb1|refine zbS ?_ GE361.out)|exact HB.out))) : w.heap.size≤gb362));have n5_:=Z0.mk ((by rw [hg];exact Nat.ne_of_lt (blk_lt (g:=gb361) (o:=.cells #[.int .i64 a0_0,.int .i64 a0_1,.string a0_2,.string a0_3,.slice A0_4 l0_4.length c0_4] 55 (0,0)) (by (with_reducible repeat (first|refine zkN ?_ _|refine zkD ?_|refine zkA ?_ _));exact BK361.out)) : gb361 ≠ gb362));have n6_:=Z0.mk ((by rw [hg];exact Nat.ne_of_gt (blk_lt (g:=gb361) (o:=.cells #[.int .i64 a0_0,.int .i64 a0_1,.string a0_2,.string a0_3,.slice A0_4 l0_4.length c0_4] 55 (0,0)) (by (with_reducible repeat (first|refine zkN ?_ _|refine zkD ?_|refine zkA ?_ _));exact BK361.out)) : gb362 ≠ gb361));clear BK361;clear HB;have BK361:=n0_;have HB:=n1_;have BK362:=n2_;have GW362:=n3_;have GE362:=n4_;have NB361_362:=n5_;have NB362_361:=n6_;clear n0_ n1_ n2_ n3_ n4_ n5_ n6_;clear hb hbox hg;have hnb10:=NB361_362.out;have hnc10:=NB362_361.out;have hcz11_0 : w9.cell? ⟨gb361,0,none⟩=some (.int .i64 a0_0):=(zkC BK361.out 0).trans rfl;have hcz11_1 : w9.cell? ⟨gb361,1,none⟩=some (.int .i64 a0_1):=(zkC BK361.out 1).trans rfl;have hcz11_2 : w9.cell? ⟨gb361,2,none⟩=some (.string a0_2):=(zkC BK361.out 2).trans rfl;have hcz11_3 : w9.cell? ⟨gb361,3,none⟩=some (.string a0_3):=(zkC BK361.out 3).trans rfl;have hcz11_4 : w9.cell? ⟨gb361,4,none⟩=some (.slice A0_4 l0_4.length c0_4):=(zkC BK361.out 4).trans rfl;have hfz11_0:=zkF BK361.out 0;have hfz11_1:=zkF BK361.out 1;have hfz11_2:=zkF BK361.out 2;have hfz11_3:=zkF BK361.out 3;have hfz11_4:=zkF BK361.out 4;have hcz12_0 : w9.cell? ⟨gb362,0,none⟩=some (.int .i64 a1_0):=(zkC BK362.out 0).trans rfl;have hcz12_1 : w9.cell? ⟨gb362,1,none⟩=some (.int .i64 a1_1):=(zkC BK362.out 1).trans rfl;have hcz12_2 : w9.cell? ⟨gb362,2,none⟩=some (.string a1_2):=(zkC BK362.out 2).trans rfl;have hcz12_3 : w9.cell? ⟨gb362,3,none⟩=some (.string a1_3):=(zkC BK362.out 3).trans rfl;have hcz12_4 : w9.cell? ⟨gb362,4,none⟩=some (.slice A1_4 l1_4.length c1_4):=(zkC BK362.out 4).trans rfl;have hfz12_0:=zkF BK362.out 0;have hfz12_1:=zkF BK362.out 1;have hfz12_2:=zkF BK362.out 2;have hfz12_3:=zkF BK362.out 3;have hfz12_4:=zkF BK362.out 4)|(go_at_call 97;(with_reducible refine (api_Run.calls k _ _ l0_4 _ _ l1_4 t363 _ ?side1 ?side2 ?side3 ?side4 A7.out).mono ?_);(case side1=>repeat (first|exact (Kd.C_below HR0_4.out HB.out)|(with_reducible refine Kd.C_alloc ?_ _)|(with_reducible refine Kd.C_drewN ?_ _)|(with_reducible refine Kd.C_drew ?_)));(case side2=>exact HC0_4.out);(case side3=>repeat (first|exact (Kd.C_below HR1_4.out HB.out)|(with_reducible refine Kd.C_alloc ?_ _)|(with_reducible refine Kd.C_drewN ?_ _)|(with_reducible refine Kd.C_drew ?_)));(case side4=>exact HC1_4.out);rintro e w' ⟨rfl,⟨nd,rfl⟩⟩))
     go_ret
     exact ⟨by first|rfl|(simp [errW_none,errW_some] <;> rfl)|(simp [*,errW_none,errW_some] <;> rfl),by repeat (first|(with_reducible first|exact HB.out|apply zbA|apply zbN|apply zb1|refine zbS ?_ GE361.out|refine zbS ?_ GE362.out)|exact HB.out)⟩
    rw [if_neg c6] at H
    have c6b0:(a0_3.toList == a1_3.toList)=false:=beq_eq_false_iff_ne.mpr c6
    have c6b1:(a0_3.toList != a1_3.toList)=true:=bne_iff_ne.mpr c6
    obtain rfl:=Option.some.inj H
    go_enter Try.func60,Try.ntmps60
    go_wp2_with (first|((with_reducible refine gate_dst (N:=2) rfl ?_);refine box_event ?hg (N:=2) ?hd (cs:=#[.int .i64 a0_0,.int .i64 a0_1,.string a0_2,.string a0_3,.slice A0_4 l0_4.length c0_4]) (t:=55) ?hr ?_;(case hd=>rfl);(case hg=>rfl);(case hr=>first|(go_simp;done)|(go_simp;rfl));intro gb361 hg w13 hbox hb;have n0_:=Z0.mk (below_step (by repeat (first|(with_reducible first|exact HB.out|apply zbA|apply zbN|apply zb1)|exact HB.out)) hb);have n1_:=Z0.mk (hbox);have n2_:=Z0.mk ((by rw [hg];exact (below_size (by repeat (first|(with_reducible first|exact HB.out|apply zbA|apply zbN|apply zb1)|exact HB.out))) : w.heap.size≤gb361));have n3_:=Z0.mk ((by rw [hg];exact (below_size (by repeat (first|(with_reducible first|exact HB.out|apply zbA|apply zbN|apply zb1)|exact HB.out))) : w.heap.size≤gb361));clear HB;have HB:=n0_;have BK361:=n1_;have GW361:=n2_;have GE361:=n3_;clear n0_ n1_ n2_ n3_;clear hb hbox hg)|((with_reducible refine gate_dst (N:=3) rfl ?_);refine box_event ?hg (N:=3) ?hd (cs:=#[.int .i64 a1_0,.int .i64 a1_1,.string a1_2,.string a1_3,.slice A1_4 l1_4.length c1_4]) (t:=55) ?hr ?_;(case hd=>rfl);(case hg=>rfl);(case hr=>first|(go_simp;done)|(go_simp;rfl));intro gb362 hg w14 hbox hb;have n0_:=Z0.mk (blk_below (g:=gb361) (o:=.cells #[.int .i64 a0_0,.int .i64 a0_1,.string a0_2,.string a0_3,.slice A0_4 l0_4.length c0_4] 55 (0,0)) (by (with_reducible repeat (first|refine zkN ?_ _|refine zkD ?_|refine zkA ?_ _));exact BK361.out) hb);have n1_:=Z0.mk (below_step (by repeat (first|(with_reducible first|exact HB.out|apply zbA|apply zbN|apply zb1|refine zbS ?_ GE361.out)|exact HB.out)) hb);have n2_:=Z0.mk (hbox);have n3_:=Z0.mk ((by rw [hg];exact (below_size (by repeat (first|(with_reducible first|exact HB.out|apply zbA|apply zbN|apply zb1|refine zbS ?_ GE361.out)|exact HB.out))) : w.heap.size≤gb362));have n4_:=Z0.mk ((by rw [hg];exact (below_size (by repeat (first|(with_reducible first|exact HB.out|apply zbA|apply zbN|apply zb1|refine zbS ?_ GE361.out)|exact HB.out))) : w.heap.size≤gb362));have n5_:=Z0.mk ((by rw [hg];exact Nat.ne_of_lt (blk_lt (g:=gb361) (o:=.cells #[.int .i64 a0_0,.int .i64 a0_1,.string a0_2,.string a0_3,.slice A0_4 l0_4.length c0_4] 55 (0,0)) (by (with_reducible repeat (first|refine zkN ?_ _|refine zkD ?_|refine zkA ?_ _));exact BK361.out)) : gb361 ≠ gb362));have n6_:=Z0.mk ((by rw [hg];exact Nat.ne_of_gt (blk_lt (g:=gb361) (o:=.cells #[.int .i64 a0_0,.int .i64 a0_1,.string a0_2,.string a0_3,.slice A0_4 l0_4.length c0_4] 55 (0,0)) (by (with_reducible repeat (first|refine zkN ?_ _|refine zkD ?_|refine zkA ?_ _));exact BK361.out)) : gb362 ≠ gb361));clear BK361;clear HB;have BK361:=n0_;have HB:=n1_;have BK362:=n2_;have GW362:=n3_;have GE362:=n4_;have NB361_362:=n5_;have NB362_361:=n6_;clear n0_ n1_ n2_ n3_ n4_ n5_ n6_;clear hb hbox hg;have hnb15:=NB361_362.out;have hnc15:=NB362_361.out;have hcz16_0 : w14.cell? ⟨gb361,0,none⟩=some (.int .i64 a0_0):=(zkC BK361.out 0).trans rfl;have hcz16_1 : w14.cell? ⟨gb361,1,none⟩=some (.int .i64 a0_1):=(zkC BK361.out 1).trans rfl;have hcz16_2 : w14.cell? ⟨gb361,2,none⟩=some (.string a0_2):=(zkC BK361.out 2).trans rfl;have hcz16_3 : w14.cell? ⟨gb361,3,none⟩=some (.string a0_3):=(zkC BK361.out 3).trans rfl;have hcz16_4 : w14.cell? ⟨gb361,4,none⟩=some (.slice A0_4 l0_4.length c0_4):=(zkC BK361.out 4).trans rfl;have hfz16_0:=zkF BK361.out 0;have hfz16_1:=zkF BK361.out 1;have hfz16_2:=zkF BK361.out 2;have hfz16_3:=zkF BK361.out 3;have hfz16_4:=zkF BK361.out 4;have hcz17_0 : w14.cell? ⟨gb362,0,none⟩=some (.int .i64 a1_0):=(zkC BK362.out 0).trans rfl;have hcz17_1 : w14.cell? ⟨gb362,1,none⟩=some (.int .i64 a1_1):=(zkC BK362.out 1).trans rfl;have hcz17_2 : w14.cell? ⟨gb362,2,none⟩=some (.string a1_2):=(zkC BK362.out 2).trans rfl;have hcz17_3 : w14.cell? ⟨gb362,3,none⟩=some (.string a1_3):=(zkC BK362.out 3).trans rfl;have hcz17_4 : w14.cell? ⟨gb362,4,none⟩=some (.slice A1_4 l1_4.length c1_4):=(zkC BK362.out 4).trans rfl;have hfz17_0:=zkF BK362.out 0;have hfz17_1:=zkF BK362.out 1;have hfz17_2:=zkF BK362.out 2;have hfz17_3:=zkF BK362.out 3;have hfz17_4:=zkF BK362.out 4))
    go_ret
    exact ⟨by first|rfl|(simp [errW_none,errW_some] <;> rfl)|(simp [*,errW_none,errW_some] <;> rfl),by repeat (first|(with_reducible first|exact HB.out|apply zbA|apply zbN|apply zb1|refine zbS ?_ GE361.out|refine zbS ?_ GE362.out)|exact HB.out)⟩
   rw [if_neg c5] at H
   have c5b0:(a0_2.toList == a1_2.toList)=false:=beq_eq_false_iff_ne.mpr c5
   have c5b1:(a0_2.toList != a1_2.toList)=true:=bne_iff_ne.mpr c5
   obtain rfl:=Option.some.inj H
   go_enter Try.func60,Try.ntmps60
   go_wp2_with (first|((with_reducible refine gate_dst (N:=2) rfl ?_);refine box_event ?hg (N:=2) ?hd (cs:=#[.int .i64 a0_0,.int .i64 a0_1,.string a0_2,.string a0_3,.slice A0_4 l0_4.length c0_4]) (t:=55) ?hr ?_;(case hd=>rfl);(case hg=>rfl);(case hr=>first|(go_simp;done)|(go_simp;rfl));intro gb361 hg w18 hbox hb;have n0_:=Z0.mk (below_step (by repeat (first|(with_reducible first|exact HB.out|apply zbA|apply zbN|apply zb1)|exact HB.out)) hb);have n1_:=Z0.mk (hbox);have n2_:=Z0.mk ((by rw [hg];exact (below_size (by repeat (first|(with_reducible first|exact HB.out|apply zbA|apply zbN|apply zb1)|exact HB.out))) : w.heap.size≤gb361));have n3_:=Z0.mk ((by rw [hg];exact (below_size (by repeat (first|(with_reducible first|exact HB.out|apply zbA|apply zbN|apply zb1)|exact HB.out))) : w.heap.size≤gb361));clear HB;have HB:=n0_;have BK361:=n1_;have GW361:=n2_;have GE361:=n3_;clear n0_ n1_ n2_ n3_;clear hb hbox hg)|((with_reducible refine gate_dst (N:=3) rfl ?_);refine box_event ?hg (N:=3) ?hd (cs:=#[.int .i64 a1_0,.int .i64 a1_1,.string a1_2,.string a1_3,.slice A1_4 l1_4.length c1_4]) (t:=55) ?hr ?_;(case hd=>rfl);(case hg=>rfl);(case hr=>first|(go_simp;done)|(go_simp;rfl));intro gb362 hg w19 hbox hb;have n0_:=Z0.mk (blk_below (g:=gb361) (o:=.cells #[.int .i64 a0_0,.int .i64 a0_1,.string a0_2,.string a0_3,.slice A0_4 l0_4.length c0_4] 55 (0,0)) (by (with_reducible repeat (first|refine zkN ?_ _|refine zkD ?_|refine zkA ?_ _));exact BK361.out) hb);have n1_:=Z0.mk (below_step (by repeat (first|(with_reducible first|exact HB.out|apply zbA|apply zbN|apply zb1|refine zbS ?_ GE361.out)|exact HB.out)) hb);have n2_:=Z0.mk (hbox);have n3_:=Z0.mk ((by rw [hg];exact (below_size (by repeat (first|(with_reducible first|exact HB.out|apply zbA|apply zbN|apply zb1|refine zbS ?_ GE361.out)|exact HB.out))) : w.heap.size≤gb362));have n4_:=Z0.mk ((by rw [hg];exact (below_size (by repeat (first|(with_reducible first|exact HB.out|apply zbA|apply zbN|apply zb1|refine zbS ?_ GE361.out)|exact HB.out))) : w.heap.size≤gb362));have n5_:=Z0.mk ((by rw [hg];exact Nat.ne_of_lt (blk_lt (g:=gb361) (o:=.cells #[.int .i64 a0_0,.int .i64 a0_1,.string a0_2,.string a0_3,.slice A0_4 l0_4.length c0_4] 55 (0,0)) (by (with_reducible repeat (first|refine zkN ?_ _|refine zkD ?_|refine zkA ?_ _));exact BK361.out)) : gb361 ≠ gb362));have n6_:=Z0.mk ((by rw [hg];exact Nat.ne_of_gt (blk_lt (g:=gb361) (o:=.cells #[.int .i64 a0_0,.int .i64 a0_1,.string a0_2,.string a0_3,.slice A0_4 l0_4.length c0_4] 55 (0,0)) (by (with_reducible repeat (first|refine zkN ?_ _|refine zkD ?_|refine zkA ?_ _));exact BK361.out)) : gb362 ≠ gb361));clear BK361;clear HB;have BK361:=n0_;have HB:=n1_;have BK362:=n2_;have GW362:=n3_;have GE362:=n4_;have NB361_362:=n5_;have NB362_361:=n6_;clear n0_ n1_ n2_ n3_ n4_ n5_ n6_;clear hb hbox hg;have hnb20:=NB361_362.out;have hnc20:=NB362_361.out;have hcz21_0 : w19.cell? ⟨gb361,0,none⟩=some (.int .i64 a0_0):=(zkC BK361.out 0).trans rfl;have hcz21_1 : w19.cell? ⟨gb361,1,none⟩=some (.int .i64 a0_1):=(zkC BK361.out 1).trans rfl;have hcz21_2 : w19.cell? ⟨gb361,2,none⟩=some (.string a0_2):=(zkC BK361.out 2).trans rfl;have hcz21_3 : w19.cell? ⟨gb361,3,none⟩=some (.string a0_3):=(zkC BK361.out 3).trans rfl;have hcz21_4 : w19.cell? ⟨gb361,4,none⟩=some (.slice A0_4 l0_4.length c0_4):=(zkC BK361.out 4).trans rfl;have hfz21_0:=zkF BK361.out 0;have hfz21_1:=zkF BK361.out 1;have hfz21_2:=zkF BK361.out 2;have hfz21_3:=zkF BK361.out 3;have hfz21_4:=zkF BK361.out 4;have hcz22_0 : w19.cell? ⟨gb362,0,none⟩=some (.int .i64 a1_0):=(zkC BK362.out 0).trans rfl;have hcz22_1 : w19.cell? ⟨gb362,1,none⟩=some (.int .i64 a1_1):=(zkC BK362.out 1).trans rfl;have hcz22_2 : w19.cell? ⟨gb362,2,none⟩=some (.string a1_2):=(zkC BK362.out 2).trans rfl;have hcz22_3 : w19.cell? ⟨gb362,3,none⟩=some (.string a1_3):=(zkC BK362.out 3).trans rfl;have hcz22_4 : w19.cell? ⟨gb362,4,none⟩=some (.slice A1_4 l1_4.length c1_4):=(zkC BK362.out 4).trans rfl;have hfz22_0:=zkF BK362.out 0;have hfz22_1:=zkF BK362.out 1;have hfz22_2:=zkF BK362.out 2;have hfz22_3:=zkF BK362.out 3;have hfz22_4:=zkF BK362.out 4))
   go_ret
   exact ⟨by first|rfl|(simp [errW_none,errW_some] <;> rfl)|(simp [*,errW_none,errW_some] <;> rfl),by repeat (first|(with_reducible first|exact HB.out|apply zbA|apply zbN|apply zb1|refine zbS ?_ GE361.out|refine zbS ?_ GE362.out)|exact HB.out)⟩
  rw [if_neg c4] at H
  have c4b0:(a0_1 == a1_1)=false:=beq_eq_false_iff_ne.mpr c4
  have c4b1:(a0_1 != a1_1)=true:=bne_iff_ne.mpr c4
  obtain rfl:=Option.some.inj H
  go_enter Try.func60,Try.ntmps60
  go_wp2_with (first|((with_reducible refine gate_dst (N:=2) rfl ?_);refine box_event ?hg (N:=2) ?hd (cs:=#[.int .i64 a0_0,.int .i64 a0_1,.string a0_2,.string a0_3,.slice A0_4 l0_4.length c0_4]) (t:=55) ?hr ?_;(case hd=>rfl);(case hg=>rfl);(case hr=>first|(go_simp;done)|(go_simp;rfl));intro gb361 hg w23 hbox hb;have n0_:=Z0.mk (below_step (by repeat (first|(with_reducible first|exact HB.out|apply zbA|apply zbN|apply zb1)|exact HB.out)) hb);have n1_:=Z0.mk (hbox);have n2_:=Z0.mk ((by rw [hg];exact (below_size (by repeat (first|(with_reducible first|exact HB.out|apply zbA|apply zbN|apply zb1)|exact HB.out))) : w.heap.size≤gb361));have n3_:=Z0.mk ((by rw [hg];exact (below_size (by repeat (first|(with_reducible first|exact HB.out|apply zbA|apply zbN|apply zb1)|exact HB.out))) : w.heap.size≤gb361));clear HB;have HB:=n0_;have BK361:=n1_;have GW361:=n2_;have GE361:=n3_;clear n0_ n1_ n2_ n3_;clear hb hbox hg)|((with_reducible refine gate_dst (N:=3) rfl ?_);refine box_event ?hg (N:=3) ?hd (cs:=#[.int .i64 a1_0,.int .i64 a1_1,.string a1_2,.string a1_3,.slice A1_4 l1_4.length c1_4]) (t:=55) ?hr ?_;(case hd=>rfl);(case hg=>rfl);(case hr=>first|(go_simp;done)|(go_simp;rfl));intro gb362 hg w24 hbox hb;have n0_:=Z0.mk (blk_below (g:=gb361) (o:=.cells #[.int .i64 a0_0,.int .i64 a0_1,.string a0_2,.string a0_3,.slice A0_4 l0_4.length c0_4] 55 (0,0)) (by (with_reducible repeat (first|refine zkN ?_ _|refine zkD ?_|refine zkA ?_ _));exact BK361.out) hb);have n1_:=Z0.mk (below_step (by repeat (first|(with_reducible first|exact HB.out|apply zbA|apply zbN|apply zb1|refine zbS ?_ GE361.out)|exact HB.out)) hb);have n2_:=Z0.mk (hbox);have n3_:=Z0.mk ((by rw [hg];exact (below_size (by repeat (first|(with_reducible first|exact HB.out|apply zbA|apply zbN|apply zb1|refine zbS ?_ GE361.out)|exact HB.out))) : w.heap.size≤gb362));have n4_:=Z0.mk ((by rw [hg];exact (below_size (by repeat (first|(with_reducible first|exact HB.out|apply zbA|apply zbN|apply zb1|refine zbS ?_ GE361.out)|exact HB.out))) : w.heap.size≤gb362));have n5_:=Z0.mk ((by rw [hg];exact Nat.ne_of_lt (blk_lt (g:=gb361) (o:=.cells #[.int .i64 a0_0,.int .i64 a0_1,.string a0_2,.string a0_3,.slice A0_4 l0_4.length c0_4] 55 (0,0)) (by (with_reducible repeat (first|refine zkN ?_ _|refine zkD ?_|refine zkA ?_ _));exact BK361.out)) : gb361 ≠ gb362));have n6_:=Z0.mk ((by rw [hg];exact Nat.ne_of_gt (blk_lt (g:=gb361) (o:=.cells #[.int .i64 a0_0,.int .i64 a0_1,.string a0_2,.string a0_3,.slice A0_4 l0_4.length c0_4] 55 (0,0)) (by (with_reducible repeat (first|refine zkN ?_ _|refine zkD ?_|refine zkA ?_ _));exact BK361.out)) : gb362 ≠ gb361));clear BK361;clear HB;have BK361:=n0_;have HB:=n1_;have BK362:=n2_;have GW362:=n3_;have GE362:=n4_;have NB361_362:=n5_;have NB362_361:=n6_;clear n0_ n1_ n2_ n3_ n4_ n5_ n6_;clear hb hbox hg;have hnb25:=NB361_362.out;have hnc25:=NB362_361.out;have hcz26_0 : w24.cell? ⟨gb361,0,none⟩=some (.int .i64 a0_0):=(zkC BK361.out 0).trans rfl;have hcz26_1 : w24.cell? ⟨gb361,1,none⟩=some (.int .i64 a0_1):=(zkC BK361.out 1).trans rfl;have hcz26_2 : w24.cell? ⟨gb361,2,none⟩=some (.string a0_2):=(zkC BK361.out 2).trans rfl;have hcz26_3 : w24.cell? ⟨gb361,3,none⟩=some (.string a0_3):=(zkC BK361.out 3).trans rfl;have hcz26_4 : w24.cell? ⟨gb361,4,none⟩=some (.slice A0_4 l0_4.length c0_4):=(zkC BK361.out 4).trans rfl;have hfz26_0:=zkF BK361.out 0;have hfz26_1:=zkF BK361.out 1;have hfz26_2:=zkF BK361.out 2;have hfz26_3:=zkF BK361.out 3;have hfz26_4:=zkF BK361.out 4;have hcz27_0 : w24.cell? ⟨gb362,0,none⟩=some (.int .i64 a1_0):=(zkC BK362.out 0).trans rfl;have hcz27_1 : w24.cell? ⟨gb362,1,none⟩=some (.int .i64 a1_1):=(zkC BK362.out 1).trans rfl;have hcz27_2 : w24.cell? ⟨gb362,2,none⟩=some (.string a1_2):=(zkC BK362.out 2).trans rfl;have hcz27_3 : w24.cell? ⟨gb362,3,none⟩=some (.string a1_3):=(zkC BK362.out 3).trans rfl;have hcz27_4 : w24.cell? ⟨gb362,4,none⟩=some (.slice A1_4 l1_4.length c1_4):=(zkC BK362.out 4).trans rfl;have hfz27_0:=zkF BK362.out 0;have hfz27_1:=zkF BK362.out 1;have hfz27_2:=zkF BK362.out 2;have hfz27_3:=zkF BK362.out 3;have hfz27_4:=zkF BK362.out 4))
  go_ret
  exact ⟨by first|rfl|(simp [errW_none,errW_some] <;> rfl)|(simp [*,errW_none,errW_some] <;> rfl),by repeat (first|(with_reducible first|exact HB.out|apply zbA|apply zbN|apply zb1|refine zbS ?_ GE361.out|refine zbS ?_ GE362.out)|exact HB.out)⟩
 rw [if_neg c3] at H
 have c3b0:(a0_0 == a1_0)=false:=beq_eq_false_iff_ne.mpr c3
 have c3b1:(a0_0 != a1_0)=true:=bne_iff_ne.mpr c3
 obtain rfl:=Option.some.inj H
 go_enter Try.func60,Try.ntmps60
 go_wp2_with (first|((with_reducible refine gate_dst (N:=2) rfl ?_);refine box_event ?hg (N:=2) ?hd (cs:=#[.int .i64 a0_0,.int .i64 a0_1,.string a0_2,.string a0_3,.slice A0_4 l0_4.length c0_4]) (t:=55) ?hr ?_;(case hd=>rfl);(case hg=>rfl);(case hr=>first|(go_simp;done)|(go_simp;rfl));intro gb361 hg w28 hbox hb;have n0_:=Z0.mk (below_step (by repeat (first|(with_reducible first|exact HB.out|apply zbA|apply zbN|apply zb1)|exact HB.out)) hb);have n1_:=Z0.mk (hbox);have n2_:=Z0.mk ((by rw [hg];exact (below_size (by repeat (first|(with_reducible first|exact HB.out|apply zbA|apply zbN|apply zb1)|exact HB.out))) : w.heap.size≤gb361));have n3_:=Z0.mk ((by rw [hg];exact (below_size (by repeat (first|(with_reducible first|exact HB.out|apply zbA|apply zbN|apply zb1)|exact HB.out))) : w.heap.size≤gb361));clear HB;have HB:=n0_;have BK361:=n1_;have GW361:=n2_;have GE361:=n3_;clear n0_ n1_ n2_ n3_;clear hb hbox hg)|((with_reducible refine gate_dst (N:=3) rfl ?_);refine box_event ?hg (N:=3) ?hd (cs:=#[.int .i64 a1_0,.int .i64 a1_1,.string a1_2,.string a1_3,.slice A1_4 l1_4.length c1_4]) (t:=55) ?hr ?_;(case hd=>rfl);(case hg=>rfl);(case hr=>first|(go_simp;done)|(go_simp;rfl));intro gb362 hg w29 hbox hb;have n0_:=Z0.mk (blk_below (g:=gb361) (o:=.cells #[.int .i64 a0_0,.int .i64 a0_1,.string a0_2,.string a0_3,.slice A0_4 l0_4.length c0_4] 55 (0,0)) (by (with_reducible repeat (first|refine zkN ?_ _|refine zkD ?_|refine zkA ?_ _));exact BK361.out) hb);have n1_:=Z0.mk (below_step (by repeat (first|(with_reducible first|exact HB.out|apply zbA|apply zbN|apply zb1|refine zbS ?_ GE361.out)|exact HB.out)) hb);have n2_:=Z0.mk (hbox);have n3_:=Z0.mk ((by rw [hg];exact (below_size (by repeat (first|(with_reducible first|exact HB.out|apply zbA|apply zbN|apply zb1|refine zbS ?_ GE361.out)|exact HB.out))) : w.heap.size≤gb362));have n4_:=Z0.mk ((by rw [hg];exact (below_size (by repeat (first|(with_reducible first|exact HB.out|apply zbA|apply zbN|apply zb1|refine zbS ?_ GE361.out)|exact HB.out))) : w.heap.size≤gb362));have n5_:=Z0.mk ((by rw [hg];exact Nat.ne_of_lt (blk_lt (g:=gb361) (o:=.cells #[.int .i64 a0_0,.int .i64 a0_1,.string a0_2,.string a0_3,.slice A0_4 l0_4.length c0_4] 55 (0,0)) (by (with_reducible repeat (first|refine zkN ?_ _|refine zkD ?_|refine zkA ?_ _));exact BK361.out)) : gb361 ≠ gb362));have n6_:=Z0.mk ((by rw [hg];exact Nat.ne_of_gt (blk_lt (g:=gb361) (o:=.cells #[.int .i64 a0_0,.int .i64 a0_1,.string a0_2,.string a0_3,.slice A0_4 l0_4.length c0_4] 55 (0,0)) (by (with_reducible repeat (first|refine zkN ?_ _|refine zkD ?_|refine zkA ?_ _));exact BK361.out)) : gb362 ≠ gb361));clear BK361;clear HB;have BK361:=n0_;have HB:=n1_;have BK362:=n2_;have GW362:=n3_;have GE362:=n4_;have NB361_362:=n5_;have NB362_361:=n6_;clear n0_ n1_ n2_ n3_ n4_ n5_ n6_;clear hb hbox hg;have hnb30:=NB361_362.out;have hnc30:=NB362_361.out;have hcz31_0 : w29.cell? ⟨gb361,0,none⟩=some (.int .i64 a0_0):=(zkC BK361.out 0).trans rfl;have hcz31_1 : w29.cell? ⟨gb361,1,none⟩=some (.int .i64 a0_1):=(zkC BK361.out 1).trans rfl;have hcz31_2 : w29.cell? ⟨gb361,2,none⟩=some (.string a0_2):=(zkC BK361.out 2).trans rfl;have hcz31_3 : w29.cell? ⟨gb361,3,none⟩=some (.string a0_3):=(zkC BK361.out 3).trans rfl;have hcz31_4 : w29.cell? ⟨gb361,4,none⟩=some (.slice A0_4 l0_4.length c0_4):=(zkC BK361.out 4).trans rfl;have hfz31_0:=zkF BK361.out 0;have hfz31_1:=zkF BK361.out 1;have hfz31_2:=zkF BK361.out 2;have hfz31_3:=zkF BK361.out 3;have hfz31_4:=zkF BK361.out 4;have hcz32_0 : w29.cell? ⟨gb362,0,none⟩=some (.int .i64 a1_0):=(zkC BK362.out 0).trans rfl;have hcz32_1 : w29.cell? ⟨gb362,1,none⟩=some (.int .i64 a1_1):=(zkC BK362.out 1).trans rfl;have hcz32_2 : w29.cell? ⟨gb362,2,none⟩=some (.string a1_2):=(zkC BK362.out 2).trans rfl;have hcz32_3 : w29.cell? ⟨gb362,3,none⟩=some (.string a1_3):=(zkC BK362.out 3).trans rfl;have hcz32_4 : w29.cell? ⟨gb362,4,none⟩=some (.slice A1_4 l1_4.length c1_4):=(zkC BK362.out 4).trans rfl;have hfz32_0:=zkF BK362.out 0;have hfz32_1:=zkF BK362.out 1;have hfz32_2:=zkF BK362.out 2;have hfz32_3:=zkF BK362.out 3;have hfz32_4:=zkF BK362.out 4))
 go_ret
 exact ⟨by first|rfl|(simp [errW_none,errW_some] <;> rfl)|(simp [*,errW_none,errW_some] <;> rfl),by repeat (first|(with_reducible first|exact HB.out|apply zbA|apply zbN|apply zb1|refine zbS ?_ GE361.out|refine zbS ?_ GE362.out)|exact HB.out)⟩
end Go.Proofs.Ytegefemkmdlmaaa.P
end
section
namespace Go.Proofs.Ytegefemkmdlmaaa.P
open Go.RowKit Go.Proofs.YtegefemkmdlmaaaW.PrintWords Go.Proofs.YtegefemkmdlmaaaW.PrintLast Go.Proofs.YtegefemkmdlmaaaW.PrintMore
attribute [local go_sem] max2_int min2_int max_two min_two max_three min_three max_four min_four
set_option linter.unusedVariables false
set_option linter.unusedSimpArgs false
def label_tracksOK.f (a0:Int):Option (Bool):=if a0 ≥ 4 then (some (decide (a0≤128))) else (some false)
set_option maxHeartbeats 8000000 in
set_option maxRecDepth 100000 in
theorem label_tracksOK.calls (a0:Int) (r:Bool) (w:World) (h : label_tracksOK.f a0=some r) :
  Calls Try.prog 100 #[.int .i64 a0] w fun e w'=>e=.returned (.bool r)∧Drawn0 w w':=by
 have H:(if a0 ≥ 4 then (some (decide (a0≤128))) else (some false))=some r:=h
 clear h
 by_cases c2 : a0 ≥ 4
 ·rw [if_pos c2] at H
  have c2b0 : decide (4≤a0)=true:=decide_eq_true c2
  clear c2
  obtain rfl:=Option.some.inj H
  go_enter Try.func100,Try.ntmps100
  go_wp2
  go_ret
  exact ⟨by first|rfl|(simp;done)|(simp [*];done),by repeat (first|exact Drawn0.refl _|apply Drawn0.step)⟩
 rw [if_neg c2] at H
 have c2b0 : decide (4≤a0)=false:=decide_eq_false c2
 clear c2
 obtain rfl:=Option.some.inj H
 go_enter Try.func100,Try.ntmps100
 go_wp2
 go_ret
 exact ⟨by first|rfl|(simp;done)|(simp [*];done),by repeat (first|exact Drawn0.refl _|apply Drawn0.step)⟩
end Go.Proofs.Ytegefemkmdlmaaa.P
end
section
namespace Go.Proofs.Ytegefemkmdlmaaa.P
open Go.RowKit Go.Proofs.YtegefemkmdlmaaaW.PrintWords Go.Proofs.YtegefemkmdlmaaaW.PrintLast Go.Proofs.YtegefemkmdlmaaaW.PrintMore
attribute [local go_sem] max2_int min2_int max_two min_two max_three min_three max_four min_four
set_option linter.unusedVariables false
set_option linter.unusedSimpArgs false
def label_TableTracks.f (a0:Int):Option (Int):=(label_tracksOK.f a0).bind fun t364=>(if t364=true then (some (wrap64 (Int.tdiv (wrap64 (a0 + 3)) 4))) else (some 0))
set_option maxHeartbeats 8000000 in
set_option maxRecDepth 100000 in
theorem label_TableTracks.calls (a0:Int) (r:Int) (w:World) (h : label_TableTracks.f a0=some r) :
  Calls Try.prog 61 #[.int .i64 a0] w fun e w'=>e=.returned (.int .i64 r)∧Drawn0 w w':=by
 have H:((label_tracksOK.f a0).bind fun t364=>(if t364=true then (some (wrap64 (Int.tdiv (wrap64 (a0 + 3)) 4))) else (some 0)))=some r:=h
 clear h
 replace H:=Option.bind_eq_some_iff.mp H
 obtain ⟨t364,A20,H⟩:=H
 replace H:(if t364=true then (some (wrap64 (Int.tdiv (wrap64 (a0 + 3)) 4))) else (some 0))=some r:=H
 have A2:=Z0.mk A20
 clear A20
 by_cases c3 : t364=true
 ·subst c3
  have H1:(some (wrap64 (Int.tdiv (wrap64 (a0 + 3)) 4)))=some r:=by rw [if_pos rfl] at H;exact H
  clear H
  have H:=H1
  clear H1
  obtain rfl:=Option.some.inj H
  go_enter Try.func61,Try.ntmps61
  go_wp2_with (first|((with_reducible refine gate_callee (f:=100) rfl ?_);refine goesL_ (some 4) rfl rfl Try.func100 (by kernel_rfl) rfl #[.int .i64 a0] rfl (by (try simp only [List.map_toArray,List.map_cons,List.map_nil]);first|done|rfl|(simp only [List.length_drop,List.length_take];rfl)) ?_;(with_reducible refine (label_tracksOK.calls a0 true _ A2.out).mono ?_);rintro e w' ⟨rfl,⟨nd,rfl⟩⟩;refine ⟨_,rfl,?_⟩))
  go_ret
  exact ⟨by first|rfl|(simp;done)|(simp [*];done),by repeat (first|exact Drawn0.refl _|apply Drawn0.step)⟩
 replace c3:=Bool.eq_false_iff.mpr c3
 subst c3
 have H1:(some 0)=some r:=by rw [if_neg (show ¬ (false=true) by decide)] at H;exact H
 clear H
 have H:=H1
 clear H1
 obtain rfl:=Option.some.inj H
 go_enter Try.func61,Try.ntmps61
 go_wp2_with (first|((with_reducible refine gate_callee (f:=100) rfl ?_);refine goesL_ (some 4) rfl rfl Try.func100 (by kernel_rfl) rfl #[.int .i64 a0] rfl (by (try simp only [List.map_toArray,List.map_cons,List.map_nil]);first|done|rfl|(simp only [List.length_drop,List.length_take];rfl)) ?_;(with_reducible refine (label_tracksOK.calls a0 false _ A2.out).mono ?_);rintro e w' ⟨rfl,⟨nd,rfl⟩⟩;refine ⟨_,rfl,?_⟩))
 go_ret
 exact ⟨by first|rfl|(simp;done)|(simp [*];done),by repeat (first|exact Drawn0.refl _|apply Drawn0.step)⟩
end Go.Proofs.Ytegefemkmdlmaaa.P
end
section
namespace Go.Proofs.Ytegefemkmdlmaaa.P
open Go.RowKit Go.Proofs.YtegefemkmdlmaaaW.PrintWords Go.Proofs.YtegefemkmdlmaaaW.PrintLast Go.Proofs.YtegefemkmdlmaaaW.PrintMore
set_option linter.unusedVariables false
set_option linter.unusedSimpArgs false
theorem tracksOK_eq (t:Int) : label_tracksOK.f t=some (decide (4≤t∧t≤128)):=by
 unfold label_tracksOK.f
 by_cases h : t ≥ 4
 ·rw [if_pos h]
  congr 1
  rw [decide_eq_decide];omega
 rw [if_neg h,show decide (4≤t∧t≤128)=false from decide_eq_false (by omega)]
set_option maxRecDepth 100000 in
set_option maxHeartbeats 2000000 in
theorem cond1 (t:Int) (gt:Nat) (w:World) (ht : w.heap[gt]?=some (.cells #[.int .i64 t] 3 (0,0))) :
  Calls Try.prog 113 #[.pointer (some ⟨gt,0,none⟩)] w fun e w'=>e=.returned (.bool (decide (4≤t∧t≤128)))∧Below w.heap.size w w':=by
 have hc : w.cell? ⟨gt,0,none⟩=some (.int .i64 t):=(zkC ht 0).trans rfl
 obtain ⟨b,hb⟩:∃ b,b=decide (4≤t∧t≤128):=⟨_,rfl⟩
 have HE:=Z0.mk (tracksOK_eq t)
 rw [← hb] at HE ⊢
 clear hb
 go_enter Try.func113,Try.ntmps113
 go_wp2_with (go_at_call 100;refine (label_tracksOK.calls t b _ HE.out).mono ?_;rintro e w1 ⟨rfl,⟨m,rfl⟩⟩)
 go_ret
 exact ⟨rfl,zbN (Below.refl _ _) m⟩
set_option maxRecDepth 100000 in
set_option maxHeartbeats 2000000 in
theorem cond2 (id unit:Int) (name note:ByteArray) (v:Value) (gl:Nat) (w:World) (hl : w.heap[gl]?=some (.cells #[.int .i64 id,.int .i64 unit,.string name,.string note,v] 55 (0,0))) :
  Calls Try.prog 114 #[.pointer (some ⟨gl,0,none⟩)] w fun e w'=>e=.returned (.bool (decide (1≤id∧id≤1099511627776) && decide (0≤unit∧unit≤1099511627776)))∧Below w.heap.size w w':=by
 have hu55:=Try.underlying55
 have hc0 : w.cell? ⟨gl,0,none⟩=some (.int .i64 id):=(zkC hl 0).trans rfl
 have hc1 : w.cell? ⟨gl,1,none⟩=some (.int .i64 unit):=(zkC hl 1).trans rfl
 clear hl
 by_cases h1 : 1≤id
 ·by_cases h2 : id≤1099511627776
  ·by_cases h3 : 0≤unit
   ·by_cases h4 : unit≤1099511627776
    ·have e:(decide (1≤id∧id≤1099511627776) && decide (0≤unit∧unit≤1099511627776))=true:=by simp [h1,h2,h3,h4]
     rw [e]
     have d1:=decide_eq_true h1
     have d2:=decide_eq_true h2
     have d3:=decide_eq_true h3
     have d4:=decide_eq_true h4
     clear e h1 h2 h3 h4
     go_enter Try.func114,Try.ntmps114
     go_wp2
     go_ret
     exact ⟨rfl,Below.refl _ _⟩
    have e:(decide (1≤id∧id≤1099511627776) && decide (0≤unit∧unit≤1099511627776))=false:=by simp [h1,h2,h3,h4]
    rw [e]
    have d1:=decide_eq_true h1
    have d2:=decide_eq_true h2
    have d3:=decide_eq_true h3
    have d4:=decide_eq_false h4
    clear e h1 h2 h3 h4
    go_enter Try.func114,Try.ntmps114
    go_wp2
    go_ret
    exact ⟨rfl,Below.refl _ _⟩
   have e:(decide (1≤id∧id≤1099511627776) && decide (0≤unit∧unit≤1099511627776))=false:=by simp [h1,h2,h3]
   rw [e]
   have d1:=decide_eq_true h1
   have d2:=decide_eq_true h2
   have d3:=decide_eq_false h3
   clear e h1 h2 h3
   go_enter Try.func114,Try.ntmps114
   go_wp2
   go_ret
   exact ⟨rfl,Below.refl _ _⟩
  have e:(decide (1≤id∧id≤1099511627776) && decide (0≤unit∧unit≤1099511627776))=false:=by simp [h1,h2]
  rw [e]
  have d1:=decide_eq_true h1
  have d2:=decide_eq_false h2
  clear e h1 h2
  go_enter Try.func114,Try.ntmps114
  go_wp2
  go_ret
  exact ⟨rfl,Below.refl _ _⟩
 have e:(decide (1≤id∧id≤1099511627776) && decide (0≤unit∧unit≤1099511627776))=false:=by simp [h1]
 rw [e]
 have d1:=decide_eq_false h1
 clear e h1
 go_enter Try.func114,Try.ntmps114
 go_wp2
 go_ret
 exact ⟨rfl,Below.refl _ _⟩
set_option maxRecDepth 100000 in
set_option maxHeartbeats 2000000 in
theorem cond3 (id unit:Int) (name note:ByteArray) (v:Value) (gl:Nat) (w:World) (hl : w.heap[gl]?=some (.cells #[.int .i64 id,.int .i64 unit,.string name,.string note,v] 55 (0,0))) :
  Calls Try.prog 115 #[.pointer (some ⟨gl,0,none⟩)] w fun e w'=>e=.returned (.bool (decide (name.size≤31∧note.size≤400)))∧Below w.heap.size w w':=by
 have hu55:=Try.underlying55
 have hc0 : w.cell? ⟨gl,2,none⟩=some (.string name):=(zkC hl 2).trans rfl
 have hc1 : w.cell? ⟨gl,3,none⟩=some (.string note):=(zkC hl 3).trans rfl
 clear hl
 by_cases h1 : name.size≤31
 ·by_cases h2 : note.size≤400
  ·rw [show decide (name.size≤31∧note.size≤400)=true from decide_eq_true ⟨h1,h2⟩]
   have d1:=decide_eq_true (show (name.size:Int)≤31 by omega)
   have d2:=decide_eq_true (show (note.size:Int)≤400 by omega)
   have d3:=decide_eq_true h1
   have d4:=decide_eq_true h2
   go_enter Try.func115,Try.ntmps115
   go_wp2
   go_ret
   exact ⟨rfl,Below.refl _ _⟩
  rw [show decide (name.size≤31∧note.size≤400)=false from decide_eq_false (fun h=>h2 h.2)]
  have d1:=decide_eq_true (show (name.size:Int)≤31 by omega)
  have d2:=decide_eq_false (show ¬ (note.size:Int)≤400 by omega)
  have d3:=decide_eq_true h1
  have d4:=decide_eq_false h2
  go_enter Try.func115,Try.ntmps115
  go_wp2
  go_ret
  exact ⟨rfl,Below.refl _ _⟩
 rw [show decide (name.size≤31∧note.size≤400)=false from decide_eq_false (fun h=>h1 h.1)]
 have d1:=decide_eq_false (show ¬ (name.size:Int)≤31 by omega)
 have d3:=decide_eq_false h1
 go_enter Try.func115,Try.ntmps115
 go_wp2
 go_ret
 exact ⟨rfl,Below.refl _ _⟩
set_option maxRecDepth 100000 in
set_option maxHeartbeats 2000000 in
theorem cond4 (id unit:Int) (name note:ByteArray) (A:Option Addr) (n c:Nat) (gl:Nat) (w:World) (hl : w.heap[gl]?=some (.cells #[.int .i64 id,.int .i64 unit,.string name,.string note,.slice A n c] 55 (0,0))) :
  Calls Try.prog 116 #[.pointer (some ⟨gl,0,none⟩)] w fun e w'=>e=.returned (.bool (decide (1≤n∧n≤16)))∧Below w.heap.size w w':=by
 have hu55:=Try.underlying55
 have hc0 : w.cell? ⟨gl,4,none⟩=some (.slice A n c):=(zkC hl 4).trans rfl
 clear hl
 by_cases h1 : 1≤n
 ·by_cases h2 : n≤16
  ·rw [show decide (1≤n∧n≤16)=true from decide_eq_true ⟨h1,h2⟩]
   have d1:=decide_eq_true (show 1≤(n:Int) by omega)
   have d2:=decide_eq_true (show (n:Int)≤16 by omega)
   have d3:=decide_eq_true h1
   have d4:=decide_eq_true h2
   go_enter Try.func116,Try.ntmps116
   go_wp2
   go_ret
   exact ⟨rfl,Below.refl _ _⟩
  rw [show decide (1≤n∧n≤16)=false from decide_eq_false (fun h=>h2 h.2)]
  have d1:=decide_eq_true (show 1≤(n:Int) by omega)
  have d2:=decide_eq_false (show ¬ (n:Int)≤16 by omega)
  have d3:=decide_eq_true h1
  have d4:=decide_eq_false h2
  go_enter Try.func116,Try.ntmps116
  go_wp2
  go_ret
  exact ⟨rfl,Below.refl _ _⟩
 rw [show decide (1≤n∧n≤16)=false from decide_eq_false (fun h=>h1 h.1)]
 have d1:=decide_eq_false (show ¬ 1≤(n:Int) by omega)
 have d3:=decide_eq_false h1
 go_enter Try.func116,Try.ntmps116
 go_wp2
 go_ret
 exact ⟨rfl,Below.refl _ _⟩
end Go.Proofs.Ytegefemkmdlmaaa.P
end
section
namespace Go.Proofs.Ytegefemkmdlmaaa.P
open Go.RowKit Go.Proofs.YtegefemkmdlmaaaW.PrintWords Go.Proofs.YtegefemkmdlmaaaW.PrintLast Go.Proofs.YtegefemkmdlmaaaW.PrintMore
set_option linter.unusedVariables false
set_option linter.unusedSimpArgs false
def RowAt (w:World) (A:Option Addr) (c:Nat) (l:List S103):Prop:=Kd.C k103 w A l.length l∧l.length≤c
theorem join_call (A:Option Addr) (c:Nat) (ext:List S103) (w W:World) (n:Nat) (hn : n=ext.length) (hr:RowAt w A c ext) (hok : okL ext=true) (hb:Below w.heap.size w W) :
  Calls Try.prog 38 #[.slice A n c] W fun e w'=>∃ Ao co,e=.returned (.slice Ao (joinL ext).length co)∧RowAt w' Ao co (joinL ext)∧Below w.heap.size w w':=by
 subst hn
 obtain ⟨kj,hj⟩:=(join_ev ext hok).rounds
 refine (extent_Join.calls kj A c ext (joinL ext) W (Kd.C_below hr.1 hb) hr.2 hj).mono ?_
 rintro e w1 ⟨v,rfl,ho,hb1⟩
 obtain ⟨Ao,co,rfl⟩:=Kd.R_slice ho
 have h1:=Kd.R_reads' ho
 exact ⟨Ao,co,rfl,⟨h1.2.2,h1.2.1⟩,below_step hb hb1⟩
theorem equal_call (A:Option Addr) (c:Nat) (ext:List S103) (w W:World) (n m:Nat) (hn : n=ext.length) (hr:RowAt w A c ext) (hok : okL ext=true) (hb:Below w.heap.size w W) (Ao:Option Addr) (co:Nat) (hm : m=(joinL ext).length) (hj:RowAt W Ao co (joinL ext)) (b:Bool) (hbb : b=decide (joinL ext=ext)) :
  Calls Try.prog 97 #[.slice Ao m co,.slice A n c] W fun e w'=>e=.returned (.bool b)∧Below w.heap.size w w':=by
 subst hn hm hbb
 have hjl:(joinL ext).length≤1099511627776:=Nat.le_trans (joinL_length ext) (okL_len hok)
 obtain ⟨ke,he⟩:=(equal_ev (joinL ext) ext hjl).rounds
 refine (api_Run.calls ke Ao co (joinL ext) A c ext _ W hj.1 hj.2 (Kd.C_below hr.1 hb) hr.2 he).mono ?_
 rintro e w1 ⟨rfl,⟨m,rfl⟩⟩
 exact ⟨rfl,zbN hb m⟩
theorem disj_call (A:Option Addr) (c:Nat) (ext:List S103) (w W:World) (n:Nat) (hn : n=ext.length) (hr:RowAt w A c ext) (hok : okL ext=true) (hb:Below w.heap.size w W) (b:Bool) (hbb : b=disjL ext) :
  Calls Try.prog 56 #[.slice A n c] W fun e w'=>e=.returned (.bool b)∧Below w.heap.size w w':=by
 subst hn hbb
 obtain ⟨kd,hd⟩:=(disj_ev ext hok).rounds
 refine (extent_Disjoint.calls kd A c ext _ W (Kd.C_below hr.1 hb) hr.2 hd).mono ?_
 rintro e w1 ⟨rfl,hb1⟩
 exact ⟨rfl,below_step hb hb1⟩
set_option maxRecDepth 100000 in
set_option maxHeartbeats 4000000 in
theorem cond5 (id unit:Int) (name note:ByteArray) (A:Option Addr) (c:Nat) (ext:List S103) (gl:Nat) (w:World) (hl : w.heap[gl]?=some (.cells #[.int .i64 id,.int .i64 unit,.string name,.string note,.slice A ext.length c] 55 (0,0)))
  (hr:Kd.C k103 w A ext.length ext) (hc : ext.length≤c) (hok : okL ext=true) :
  Calls Try.prog 117 #[.pointer (some ⟨gl,0,none⟩)] w fun e w'=>e=.returned (.bool (decide (joinL ext=ext) && disjL ext))∧Below w.heap.size w w':=by
 have hu55:=Try.underlying55
 have HL:=Z0.mk hl
 have HR:=Z0.mk hr
 have HC:=Z0.mk hc
 have HROW:=Z0.mk (show RowAt w A c ext from ⟨hr,hc⟩)
 have HOK:=Z0.mk hok
 have hc0 : w.cell? ⟨gl,4,none⟩=some (.slice A ext.length c):=(zkC hl 4).trans rfl
 have hlt:=blk_lt hl
 clear hl hr hc hok HR HC
 obtain ⟨n,hn⟩:∃ n,n=ext.length:=⟨_,rfl⟩
 obtain ⟨m,hm⟩:∃ n,n=(joinL ext).length:=⟨_,rfl⟩
 have HM:=Lib.hid hm
 have HN:=Lib.hid hn
 rw [← hn] at hc0
 clear hn hm
 obtain ⟨dl,hdl⟩:∃ d,d=disjL ext:=⟨_,rfl⟩
 obtain ⟨el,hel⟩:∃ d,d=decide (joinL ext=ext):=⟨_,rfl⟩
 rw [← hdl,← hel]
 have HD:=Lib.hid hdl
 have HE:=Lib.hid hel
 clear hdl hel
 have HC0:=Z0.mk hc0
 cases el with
 | true =>
  rw [Bool.true_and]
  go_enter Try.func117,Try.ntmps117
  go_wp2_with fail
  go_region_held3 (fun w'=>w'.cell? ⟨gl,4,none⟩=some (.slice A n c)∧Below w.heap.size w w') (first|exact ⟨hc0,Below.refl _ _⟩|exact ⟨hc0,zbN (Below.refl _ _) 1⟩|assumption|(refine ⟨?_,?_⟩ <;> assumption)|go_keep)
   (first
    | (go_at_call 38;refine (join_call A c ext w _ n HN.out HROW.out HOK.out (And.right (by assumption))).mono ?_;rintro e w1 ⟨Ao,co,rfl,hrow,hb1⟩;rw [← HM.out];have hcc:=(hb1.cell (p:=⟨gl,4,none⟩) hlt).trans HC0.out)
    | (go_at_call 97;refine (equal_call A c ext w _ n m HN.out HROW.out HOK.out (And.right (by assumption)) _ _ HM.out (by assumption) true HE.out).mono ?_;rintro e w1 ⟨rfl,hb1⟩;have hcc:=(hb1.cell (p:=⟨gl,4,none⟩) hlt).trans HC0.out)
    | (go_at_call 56;refine (disj_call A c ext w _ n HN.out HROW.out HOK.out (And.right (by assumption)) dl HD.out).mono ?_;rintro e w1 ⟨rfl,hb1⟩;have hcc:=(hb1.cell (p:=⟨gl,4,none⟩) hlt).trans HC0.out))
  all_goals go_wp2
  all_goals go_ret
  all_goals exact ⟨rfl,And.right (by assumption)⟩
 | false =>
  rw [Bool.false_and]
  have B0:=Below.refl w.heap.size w
  go_enter Try.func117,Try.ntmps117
  go_wp2_with fail
  first|(go_region_with (first
    | (go_at_call 38;refine (join_call A c ext w _ n HN.out HROW.out HOK.out (zbN B0 1)).mono ?_;rintro e w1 ⟨Ao,co,rfl,hrow,hb1⟩;rw [← HM.out];have hcc:=(hb1.cell (p:=⟨gl,4,none⟩) hlt).trans HC0.out)
    | (go_at_call 97;refine (equal_call A c ext w _ n m HN.out HROW.out HOK.out (by assumption) _ _ HM.out (by assumption) false HE.out).mono ?_;rintro e w1 ⟨rfl,hb1⟩)))|fail
  all_goals go_wp2
  all_goals go_ret
  all_goals exact ⟨rfl,by assumption⟩
end Go.Proofs.Ytegefemkmdlmaaa.P
end
section
namespace Go.Proofs.Ytegefemkmdlmaaa.P
open Go.RowKit Go.Proofs.YtegefemkmdlmaaaW.PrintWords Go.Proofs.YtegefemkmdlmaaaW.PrintLast Go.Proofs.YtegefemkmdlmaaaW.PrintMore
set_option linter.unusedVariables false
set_option linter.unusedSimpArgs false
def outB (first tracks:Int) (r:S103):Bool:=decide (r.f0 < first) || decide (r.f0 + r.f1 > tracks)
set_option maxRecDepth 100000 in
set_option maxHeartbeats 2000000 in
theorem out_call (first tracks x y:Int) (gf gt:Nat) (w:World) (hf : w.heap[gf]?=some (.cells #[.int .i64 first] 3 (0,0))) (ht : w.heap[gt]?=some (.cells #[.int .i64 tracks] 3 (0,0)))
  (h0 : 0≤x) (h1 : 1≤y) (h2 : x + y≤128) :
  Calls Try.prog 120 #[.agg #[.int .i64 x,.int .i64 y],.pointer (some ⟨gf,0,none⟩),.pointer (some ⟨gt,0,none⟩)] w fun e w'=>e=.returned (.bool (outB first tracks ⟨x,y⟩))∧Below w.heap.size w w':=by
 have hu103:=Try.underlying103
 have hcf:(w.alloc (.cells #[.int .i64 x,.int .i64 y] 103)).cell? ⟨gf,0,none⟩=some (.int .i64 first):=(zkC (zkA hf _) 0).trans rfl
 have hct:(w.alloc (.cells #[.int .i64 x,.int .i64 y] 103)).cell? ⟨gt,0,none⟩=some (.int .i64 tracks):=(zkC (zkA ht _) 0).trans rfl
 have l1:=blk_lt hf
 have l2:=blk_lt ht
 clear hf ht
 obtain ⟨b,hb⟩:∃ b,b=outB first tracks ⟨x,y⟩:=⟨_,rfl⟩
 rw [← hb]
 unfold outB at hb
 simp only [] at hb
 by_cases c1 : x < first
 ·rw [decide_eq_true c1,Bool.true_or] at hb
  subst hb
  have d1:=decide_eq_true c1
  clear c1
  go_enter Try.func120,Try.ntmps120
  go_wp2
  go_ret
  exact ⟨rfl,(Below.refl _ _).alloc (Nat.le_refl _) _⟩
 rw [decide_eq_false c1,Bool.false_or] at hb
 have d1:=decide_eq_false c1
 clear c1
 by_cases c2 : x + y > tracks
 ·rw [decide_eq_true c2] at hb
  subst hb
  have d2 : decide (tracks < x + y)=true:=decide_eq_true c2
  clear c2
  go_enter Try.func120,Try.ntmps120
  go_wp2
  go_ret
  exact ⟨rfl,(Below.refl _ _).alloc (Nat.le_refl _) _⟩
 rw [decide_eq_false c2] at hb
 subst hb
 have d2 : decide (tracks < x + y)=false:=decide_eq_false c2
 clear c2
 go_enter Try.func120,Try.ntmps120
 go_wp2
 go_ret
 exact ⟨rfl,(Below.refl _ _).alloc (Nat.le_refl _) _⟩
def IdxInv (w:World) (first tracks:Int) (l:List S103) (gf gt:Nat) (k:Value) (wr:World):Prop :=
 ∃ i:Nat,i≤l.length∧k=.int .i64 i∧(l.take i).any (outB first tracks)=false∧Below w.heap.size w wr
def IdxPost (first tracks:Int) (l:List S103) (w:World) (e:Ending) (w':World):Prop :=
 ∃ j:Int,e=.returned (.int .i64 j)∧decide (j ≥ 0)=l.any (outB first tracks)∧Below w.heap.size w w'
set_option maxRecDepth 100000 in
set_option maxHeartbeats 4000000 in
theorem index_call (first tracks:Int) (A:Option Addr) (c:Nat) (l:List S103) (gf gt:Nat) (w:World) (hf : w.heap[gf]?=some (.cells #[.int .i64 first] 3 (0,0))) (ht : w.heap[gt]?=some (.cells #[.int .i64 tracks] 3 (0,0)))
  (hr:RowAt w A c l) (hfine : fine l) (hlen : l.length≤1099511627776) :
  Calls Try.prog 124 #[.slice A l.length c,.func (.func 120) #[] #[.pointer (some ⟨gf,0,none⟩),.pointer (some ⟨gt,0,none⟩)]] w (IdxPost first tracks l w):=by
 have hu103:=Try.underlying103
 have HF:=Z0.mk hf
 have HT:=Z0.mk ht
 have HR:=Z0.mk hr
 have HFI:=Z0.mk hfine
 clear hf ht hr hfine
 go_enter Try.func124,Try.ntmps124
 go_wp2
 go_loopw [5,8] (fun _ k wr=>IdxInv w first tracks l gf gt k wr) (fun _ k _=>(l.length:Int).toNat - (intOf k).toNat)
 case atStart=>exact ⟨0,by omega,rfl,by simp,Below.refl _ _⟩
 case round =>
  obtain ⟨i,hi,rfl,hany,hbel⟩:=hrel
  have HB:=Z0.mk hbel
  have HA:=Z0.mk hany
  clear hbel hany
  by_cases hlt : i < l.length
  ·obtain ⟨ad,e1,hx0,hx1⟩:=at_T103 HR.out.1 (i:Int) (by omega) (by omega)
   cases e1
   replace hx0:=(HB.out.cell (World.block_lt_of_cell? w _ hx0)).trans hx0
   replace hx1:=(HB.out.cell (World.block_lt_of_cell? w _ hx1)).trans hx1
   simp only [Int.toNat_natCast] at hx0 hx1
   have hrange:=HFI.out (rd_T103 l (i:Int)) (by rw [rd_at l i hlt];exact List.getElem_mem hlt)
   have hstep:(l.take (i + 1)).any (outB first tracks)=outB first tracks (rd_T103 l (i:Int)):=by
    rw [rd_at l i hlt,List.take_succ_eq_append_getElem hlt,List.any_append,HA.out]
    simp
   have htot : outB first tracks (rd_T103 l (i:Int))=true→l.any (outB first tracks)=true:=fun h=>by
    rw [List.any_eq_true]
    exact ⟨_,List.getElem_mem hlt,by rw [← rd_at l i hlt];exact h⟩
   have HS:=Z0.mk hstep
   have HTO:=Z0.mk htot
   clear hstep htot
   obtain ⟨b,hb⟩:∃ b,b=outB first tracks (rd_T103 l (i:Int)):=⟨_,rfl⟩
   rw [← hb] at HS HTO
   have HBB:=Lib.hid hb
   clear hb
   obtain ⟨x,hx⟩:∃ x,x=(rd_T103 l (i:Int)).f0:=⟨_,rfl⟩
   obtain ⟨y,hy⟩:∃ x,x=(rd_T103 l (i:Int)).f1:=⟨_,rfl⟩
   rw [← hx] at hx0 hrange
   rw [← hy] at hx1 hrange
   have HXY:Z0 (b=outB first tracks ⟨x,y⟩):=⟨by rw [HBB.out,hx,hy]⟩
   clear hx hy HBB
   obtain ⟨r0,r1,r2⟩:=hrange
   cases b with
   | true =>
    go_wp2_with (go_at_call 120;refine (out_call first tracks x y gf gt _ (blk_below HF.out HB.out) (blk_below HT.out HB.out) r0 r1 r2).mono ?_;rw [← HXY.out];rintro e w1 ⟨rfl,hb1⟩;have HB1:=Z0.mk hb1;clear hb1)
    go_ret
    exact ⟨_,rfl,(decide_eq_true (by omega)).trans (HTO.out (by trivial)).symm,below_step HB.out HB1.out⟩
   | false =>
    go_wp2_with (go_at_call 120;refine (out_call first tracks x y gf gt _ (blk_below HF.out HB.out) (blk_below HT.out HB.out) r0 r1 r2).mono ?_;rw [← HXY.out];rintro e w1 ⟨rfl,hb1⟩;have HB1:=Z0.mk hb1;clear hb1)
    go_roundw
    case rel=>exact ⟨i + 1,by omega,by go_num,HS.out,below_step HB.out HB1.out⟩
    case measure=>simp [intOf];omega
  obtain rfl : i=l.length:=by omega
  rw [List.take_length] at HA
  go_wp2
  go_ret
  exact ⟨_,rfl,by rw [HA.out];rfl,HB.out⟩
set_option maxRecDepth 100000 in
set_option maxHeartbeats 4000000 in
theorem contains_call (first tracks:Int) (A:Option Addr) (c:Nat) (l:List S103) (gf gt:Nat) (w:World) (hf : w.heap[gf]?=some (.cells #[.int .i64 first] 3 (0,0))) (ht : w.heap[gt]?=some (.cells #[.int .i64 tracks] 3 (0,0)))
  (hr:RowAt w A c l) (hfine : fine l) (hlen : l.length≤1099511627776) :
  Calls Try.prog 119 #[.slice A l.length c,.func (.func 120) #[] #[.pointer (some ⟨gf,0,none⟩),.pointer (some ⟨gt,0,none⟩)]] w fun e w'=>e=.returned (.bool (l.any (outB first tracks)))∧Below w.heap.size w w':=by
 have HF:=Z0.mk hf
 have HT:=Z0.mk ht
 have HR:=Z0.mk hr
 have HFI:=Z0.mk hfine
 have HL:=Z0.mk hlen
 clear hf ht hr hfine hlen
 obtain ⟨b,hb⟩:∃ b,b=l.any (outB first tracks):=⟨_,rfl⟩
 have HBB:=Lib.hid hb
 rw [← hb]
 clear hb
 go_enter Try.func119,Try.ntmps119
 go_wp2_with (go_at_call 124;refine (index_call first tracks A c l gf gt _ HF.out HT.out HR.out HFI.out HL.out).mono ?_;rintro e w1 ⟨j,rfl,hj,hb1⟩;rw [← HBB.out] at hj;have HB1:=Z0.mk hb1;clear hb1)
 go_ret
 exact ⟨rfl,HB1.out⟩
set_option maxRecDepth 100000 in
set_option maxHeartbeats 4000000 in
theorem cond6 (id unit:Int) (name note:ByteArray) (A:Option Addr) (c:Nat) (ext:List S103) (first tracks:Int) (gl gf gt:Nat) (w:World) (hl : w.heap[gl]?=some (.cells #[.int .i64 id,.int .i64 unit,.string name,.string note,.slice A ext.length c] 55 (0,0)))
  (hf : w.heap[gf]?=some (.cells #[.int .i64 first] 3 (0,0))) (ht : w.heap[gt]?=some (.cells #[.int .i64 tracks] 3 (0,0)))
  (hr:RowAt w A c ext) (hfine : fine ext) (hlen : ext.length≤1099511627776) :
  Calls Try.prog 118 #[.pointer (some ⟨gl,0,none⟩),.pointer (some ⟨gf,0,none⟩),.pointer (some ⟨gt,0,none⟩)] w fun e w'=>e=.returned (.bool (!ext.any (outB first tracks)))∧Below w.heap.size w w':=by
 have hu55:=Try.underlying55
 have hmf:∀ (fn:Fn) (first cap:Array Value) (w:World),(Instr.makeFunc fn first cap).run Try.prog w=.ok (.func fn first cap) w:=fun _ _ _ _=>rfl
 have hnot:∀ (x:Bool) (w:World),(Op.unary .not (.bool x)).run Try.prog w=.ok (.bool (!x)) w:=fun _ _=>rfl
 have HF:=Z0.mk hf
 have HT:=Z0.mk ht
 have HR:=Z0.mk hr
 have HFI:=Z0.mk hfine
 have HL:=Z0.mk hlen
 have hc0 : w.cell? ⟨gl,4,none⟩=some (.slice A ext.length c):=(zkC hl 4).trans rfl
 clear hl hf ht hr hfine hlen
 obtain ⟨b,hb⟩:∃ b,b=ext.any (outB first tracks):=⟨_,rfl⟩
 have HBB:=Lib.hid hb
 rw [← hb]
 clear hb
 go_enter Try.func118,Try.ntmps118
 go_wp2_with (go_at_call 119;refine (contains_call first tracks A c ext gf gt _ HF.out HT.out HR.out HFI.out HL.out).mono ?_;rw [← HBB.out];rintro e w1 ⟨rfl,hb1⟩;have HB1:=Z0.mk hb1;clear hb1)
 go_ret
 exact ⟨rfl,HB1.out⟩
theorem all_out (first tracks:Int) (l:List S103):(l.all fun r=>decide (first≤r.f0∧r.f0 + r.f1≤tracks))=!l.any (outB first tracks):=by
 induction l with
 | nil=>rfl
 | cons r l ih =>
  rw [List.all_cons,List.any_cons,ih,Bool.not_or]
  congr 1
  unfold outB
  rw [Bool.not_or,← decide_not,← decide_not,← Bool.decide_and,decide_eq_decide]
  omega
end Go.Proofs.Ytegefemkmdlmaaa.P
end
section
namespace Go.Proofs.Ytegefemkmdlmaaa.P
open Go.RowKit Go.Proofs.YtegefemkmdlmaaaW.PrintWords Go.Proofs.YtegefemkmdlmaaaW.PrintLast Go.Proofs.YtegefemkmdlmaaaW.PrintMore
set_option linter.unusedVariables false
set_option linter.unusedSimpArgs false
def tableT (t:Int):Int:=if 4≤t∧t≤128 then (t + 3) / 4 else 0
theorem table_eq (t:Int) : label_TableTracks.f t=some (tableT t):=by
 unfold label_TableTracks.f tableT
 rw [tracksOK_eq,Option.bind_some]
 by_cases h : 4≤t∧t≤128
 ·rw [if_pos (decide_eq_true h),if_pos h,wrap_in (t + 3) (by omega) (by omega),Int.tdiv_eq_ediv_of_nonneg (by omega),wrap_in _ (by omega) (by omega)]
 rw [if_neg (by simpa using h),if_neg h]
def valC (id unit:Int) (name note:ByteArray) (ext:List S103) (tracks:Int):Nat→Bool
 | 0=>decide (4≤tracks∧tracks≤128)
 | 1=>decide (1≤id∧id≤1099511627776) && decide (0≤unit∧unit≤1099511627776)
 | 2=>decide (name.size≤31∧note.size≤400)
 | 3=>decide (1≤ext.length∧ext.length≤16)
 | 4=>decide (joinL ext=ext) && disjL ext
 | _=>!ext.any (outB (tableT tracks) tracks)
theorem valC_all (id unit:Int) (name note:ByteArray) (ext:List S103) (tracks:Int) (h:∀ j,j < 6→valC id unit name note ext tracks j=true) : validL id unit name note ext tracks=true:=by
 have h0:=h 0 (by omega)
 have h1:=h 1 (by omega)
 have h2:=h 2 (by omega)
 have h3:=h 3 (by omega)
 have h4:=h 4 (by omega)
 have h5:=h 5 (by omega)
 simp only [valC] at h0 h1 h2 h3 h4 h5
 rw [Bool.and_eq_true] at h1 h4
 have ht : tableT tracks=(tracks + 3) / 4:=if_pos (of_decide_eq_true h0)
 rw [ht] at h5
 unfold validL
 rw [h0,h1.1,h1.2,h2,h3,h4.1,h4.2,all_out,h5]
 rfl
theorem valC_none (id unit:Int) (name note:ByteArray) (ext:List S103) (tracks:Int) (j:Nat) (hj : j < 6) (h0 : j ≠ 0→valC id unit name note ext tracks 0=true) (h : valC id unit name note ext tracks j=false) : validL id unit name note ext tracks=false:=by
 unfold validL
 obtain rfl|rfl|rfl|rfl|rfl|rfl : j=0∨j=1∨j=2∨j=3∨j=4∨j=5:=by omega
 all_goals simp only [valC] at h
 ·rw [h];rfl
 ·rcases Bool.and_eq_false_iff.1 h with h|h <;> simp [h]
 ·simp [h]
 ·simp [h]
 ·rcases Bool.and_eq_false_iff.1 h with h|h <;> simp [h]
 have ht : tableT tracks=(tracks + 3) / 4:=if_pos (of_decide_eq_true (h0 (by omega)))
 rw [ht,← all_out] at h
 rw [h]
 simp
theorem joined_fine {id unit:Int} {name note:ByteArray} {ext:List S103} {tracks:Int} (h : valC id unit name note ext tracks 4=true) : fine ext:=by
 simp only [valC] at h
 rw [Bool.and_eq_true,decide_eq_true_iff] at h
 have:=fine_joinL ext
 rwa [h.1] at this
theorem all_succ {C:Nat→Bool} {i:Nat} (h:∀ j,j < i→C j=true) (hi:C i=true):∀ j,j < i + 1→C j=true:=by
 intro j hj
 by_cases e : j=i
 ·rw [e];exact hi
 exact h j (by omega)
def ValInv (C:Nat→Bool) (w3:World) (k:Value) (wr:World):Prop :=
 ∃ i:Nat,i≤6∧k=.int .i64 i∧(∀ j,j < i→C j=true)∧Below w3.heap.size w3 wr
set_option maxRecDepth 100000 in
set_option maxHeartbeats 8000000 in
theorem label_Valid.calls (a0_0:Int) (a0_1:Int) (a0_2:ByteArray) (a0_3:ByteArray) (A0_4:Option Addr) (c0_4:Nat) (l0_4:List (S103)) (a1:Int) (r:Bool) (w:World) (hr0_4:Kd.C k103 w A0_4 l0_4.length l0_4) (hc0_4 : l0_4.length≤c0_4) (h : label_Valid.f a0_0 a0_1 a0_2 a0_3 l0_4 a1=some r) :
  Calls Try.prog 85 #[.agg #[.int .i64 a0_0,.int .i64 a0_1,.string a0_2,.string a0_3,.slice A0_4 l0_4.length c0_4],.int .i64 a1] w fun e w'=>e=.returned (.bool r)∧Below w.heap.size w w':=by
 unfold label_Valid.f at h
 by_cases hok : okL l0_4=true
 ·rw [if_pos hok] at h
  have hr:=Option.some.inj h
  clear h
  have HRR:=Lib.hid hr
  have HROW:=Z0.mk (show RowAt w A0_4 c0_4 l0_4 from ⟨hr0_4,hc0_4⟩)
  have HOK:=Z0.mk hok
  have hmf:∀ (fn:Fn) (first cap:Array Value) (w:World),(Instr.makeFunc fn first cap).run Try.prog w=.ok (.func fn first cap) w:=fun _ _ _ _=>rfl
  have HTE:=Z0.mk (table_eq a1)
  have hu55:=Try.underlying55
  clear hr hr0_4 hc0_4 hok
  obtain ⟨n,hn⟩:∃ n,n=l0_4.length:=⟨_,rfl⟩
  have HN:=Lib.hid hn
  rw [← hn]
  obtain ⟨tt,htt⟩:∃ n,n=tableT a1:=⟨_,rfl⟩
  rw [← htt] at HTE
  have HTT:=Lib.hid htt
  clear hn htt
  go_enter Try.func85,Try.ntmps85
  go_wp2_with (go_at_call 61;refine (label_TableTracks.calls a1 tt _ HTE.out).mono ?_;rintro e w1 ⟨rfl,⟨m,rfl⟩⟩)
  obtain ⟨gl,hgl⟩:∃ g,g=w.heap.size:=⟨_,rfl⟩
  have L1:(w.alloc (.cells #[.int .i64 a0_0,.int .i64 a0_1,.string a0_2,.string a0_3,.slice A0_4 n c0_4] 55)).heap.size=gl + 1:=by simp [hgl]
  have G1:=heap_alloc_new w (.cells #[.int .i64 a0_0,.int .i64 a0_1,.string a0_2,.string a0_3,.slice A0_4 n c0_4] 55)
  have B1:=zbA (Below.refl w.heap.size w) (.cells #[.int .i64 a0_0,.int .i64 a0_1,.string a0_2,.string a0_3,.slice A0_4 n c0_4] 55)
  rw [← hgl] at G1 ⊢
  generalize w.alloc (.cells #[.int .i64 a0_0,.int .i64 a0_1,.string a0_2,.string a0_3,.slice A0_4 n c0_4] 55)=x1 at L1 G1 B1 ⊢
  have L2:(x1.alloc (.cells #[.int .i64 a1] 3)).heap.size=gl + 2:=by simp [L1]
  have G2:=heap_alloc_new x1 (.cells #[.int .i64 a1] 3)
  have H1:=zkA G1 (.cells #[.int .i64 a1] 3)
  have B2:=zbA B1 (.cells #[.int .i64 a1] 3)
  rw [L1] at G2
  generalize x1.alloc (.cells #[.int .i64 a1] 3)=x2 at L2 G2 H1 B2 ⊢
  have L3:((x2.drewN m).alloc (.cells #[.int .i64 tt] 3)).heap.size=gl + 3:=by simp [L2]
  have G3:((x2.drewN m).alloc (.cells #[.int .i64 tt] 3)).heap[gl + 2]?=some (.cells #[.int .i64 tt] 3 (0,0)):=by
   have z:=heap_alloc_new (x2.drewN m) (.cells #[.int .i64 tt] 3)
   rwa [show (x2.drewN m).heap.size=gl + 2 from L2] at z
  have H2:=zkA (w:=x2.drewN m) G2 (.cells #[.int .i64 tt] 3)
  have H3:=zkA (w:=x2.drewN m) H1 (.cells #[.int .i64 tt] 3)
  have B3:=zbA (zbN B2 m) (.cells #[.int .i64 tt] 3)
  generalize (x2.drewN m).alloc (.cells #[.int .i64 tt] 3)=x3 at L3 G3 H2 H3 B3 ⊢
  obtain ⟨FA,hFA⟩:∃ F:Array Value,F=#[.func (.func 113) #[] #[.pointer (some ⟨gl + 1,0,none⟩)],.func (.func 114) #[] #[.pointer (some ⟨gl,0,none⟩)],.func (.func 115) #[] #[.pointer (some ⟨gl,0,none⟩)],.func (.func 116) #[] #[.pointer (some ⟨gl,0,none⟩)],.func (.func 117) #[] #[.pointer (some ⟨gl,0,none⟩)],.func (.func 118) #[] #[.pointer (some ⟨gl,0,none⟩),.pointer (some ⟨gl + 1 + 1,0,none⟩),.pointer (some ⟨gl + 1,0,none⟩)]]:=⟨_,rfl⟩
  rw [← hFA]
  have G4:=heap_alloc_new x3 (.cells FA 23)
  have FL:=Z0.mk (zkA H3 (.cells FA 23))
  have FT:=Z0.mk (zkA H2 (.cells FA 23))
  have FF:=Z0.mk (zkA G3 (.cells FA 23))
  have F0:=Z0.mk (zbA B3 (.cells FA 23))
  rw [L3] at G4
  have FS:=Z0.mk G4
  generalize x3.alloc (.cells FA 23)=w3 at FL FT FF F0 FS ⊢
  clear L1 L2 L3 G1 G2 G3 G4 H1 H2 H3 B1 B2 B3 hgl HTE
  rw [hFA] at FS
  clear hFA
  obtain ⟨gt,hgt⟩:∃ g,g=gl + 1:=⟨_,rfl⟩
  obtain ⟨gf,hgf⟩:∃ g,g=gl + 2:=⟨_,rfl⟩
  obtain ⟨gs,hgs⟩:∃ g,g=gl + 3:=⟨_,rfl⟩
  rw [show gl + 1 + 1 + 1=gs by omega,show gl + 1 + 1=gf by omega,← hgt]
  rw [show gl + 1 + 1=gf by omega,← hgt,← hgs] at FS
  rw [← hgt] at FT
  rw [← hgf] at FF
  clear hgt hgf hgs
  go_loopw [8,20] (fun _ k wr=>ValInv (valC a0_0 a0_1 a0_2 a0_3 l0_4 a1) w3 k wr) (fun _ k _=>6 - (intOf k).toNat)
  case atStart=>exact ⟨0,by omega,rfl,fun j hj=>by omega,Below.refl _ _⟩
  case round =>
   obtain ⟨i,hi,rfl,hall,hbel⟩:=hrel
   have HB:=Z0.mk hbel
   have HA:=Z0.mk hall
   clear hbel hall
   obtain rfl|rfl|rfl|rfl|rfl|rfl|rfl : i=0∨i=1∨i=2∨i=3∨i=4∨i=5∨i=6:=by omega
   ·have hc:=(zkC (blk_below FS.out HB.out) 0).trans (show _=some (.func (.func 113) #[] #[.pointer (some ⟨gt,0,none⟩)]) from rfl)
    have K:Calls Try.prog 113 #[.pointer (some ⟨gt,0,none⟩)] wr fun e w'=>e=.returned (.bool (valC a0_0 a0_1 a0_2 a0_3 l0_4 a1 0))∧Below wr.heap.size wr w':=cond1 a1 gt _ (blk_below FT.out HB.out)
    have HK:=Z0.mk K
    clear K
    cases hv : valC a0_0 a0_1 a0_2 a0_3 l0_4 a1 0 with
    | true =>
     rw [hv] at HK
     have HV:=Lib.hid hv
     clear hv
     go_wp2_with (go_at_call 113;refine HK.out.mono ?_;rintro e w1 ⟨rfl,hb1⟩;have HB1:=Z0.mk hb1;clear hb1)
     go_roundw
     case rel=>exact ⟨1,by omega,by go_num,all_succ HA.out HV.out,below_step HB.out HB1.out⟩
     case measure=>simp [intOf]
    | false =>
     rw [hv] at HK
     have HV:=Lib.hid hv
     clear hv
     go_wp2_with (go_at_call 113;refine HK.out.mono ?_;rintro e w1 ⟨rfl,hb1⟩;have HB1:=Z0.mk hb1;clear hb1)
     go_ret
     exact ⟨by rw [← HRR.out,valC_none a0_0 a0_1 a0_2 a0_3 l0_4 a1 0 (by omega) (fun hne=>HA.out 0 (by omega)) HV.out];rfl,below_step F0.out (below_step HB.out HB1.out)⟩
   ·have hc:=(zkC (blk_below FS.out HB.out) 1).trans (show _=some (.func (.func 114) #[] #[.pointer (some ⟨gl,0,none⟩)]) from rfl)
    have K:Calls Try.prog 114 #[.pointer (some ⟨gl,0,none⟩)] wr fun e w'=>e=.returned (.bool (valC a0_0 a0_1 a0_2 a0_3 l0_4 a1 1))∧Below wr.heap.size wr w':=cond2 a0_0 a0_1 a0_2 a0_3 _ gl _ (blk_below FL.out HB.out)
    have HK:=Z0.mk K
    clear K
    cases hv : valC a0_0 a0_1 a0_2 a0_3 l0_4 a1 1 with
    | true =>
     rw [hv] at HK
     have HV:=Lib.hid hv
     clear hv
     go_wp2_with (go_at_call 114;refine HK.out.mono ?_;rintro e w1 ⟨rfl,hb1⟩;have HB1:=Z0.mk hb1;clear hb1)
     go_roundw
     case rel=>exact ⟨2,by omega,by go_num,all_succ HA.out HV.out,below_step HB.out HB1.out⟩
     case measure=>simp [intOf]
    | false =>
     rw [hv] at HK
     have HV:=Lib.hid hv
     clear hv
     go_wp2_with (go_at_call 114;refine HK.out.mono ?_;rintro e w1 ⟨rfl,hb1⟩;have HB1:=Z0.mk hb1;clear hb1)
     go_ret
     exact ⟨by rw [← HRR.out,valC_none a0_0 a0_1 a0_2 a0_3 l0_4 a1 1 (by omega) (fun hne=>HA.out 0 (by omega)) HV.out];rfl,below_step F0.out (below_step HB.out HB1.out)⟩
   ·have hc:=(zkC (blk_below FS.out HB.out) 2).trans (show _=some (.func (.func 115) #[] #[.pointer (some ⟨gl,0,none⟩)]) from rfl)
    have K:Calls Try.prog 115 #[.pointer (some ⟨gl,0,none⟩)] wr fun e w'=>e=.returned (.bool (valC a0_0 a0_1 a0_2 a0_3 l0_4 a1 2))∧Below wr.heap.size wr w':=cond3 a0_0 a0_1 a0_2 a0_3 _ gl _ (blk_below FL.out HB.out)
    have HK:=Z0.mk K
    clear K
    cases hv : valC a0_0 a0_1 a0_2 a0_3 l0_4 a1 2 with
    | true =>
     rw [hv] at HK
     have HV:=Lib.hid hv
     clear hv
     go_wp2_with (go_at_call 115;refine HK.out.mono ?_;rintro e w1 ⟨rfl,hb1⟩;have HB1:=Z0.mk hb1;clear hb1)
     go_roundw
     case rel=>exact ⟨3,by omega,by go_num,all_succ HA.out HV.out,below_step HB.out HB1.out⟩
     case measure=>simp [intOf]
    | false =>
     rw [hv] at HK
     have HV:=Lib.hid hv
     clear hv
     go_wp2_with (go_at_call 115;refine HK.out.mono ?_;rintro e w1 ⟨rfl,hb1⟩;have HB1:=Z0.mk hb1;clear hb1)
     go_ret
     exact ⟨by rw [← HRR.out,valC_none a0_0 a0_1 a0_2 a0_3 l0_4 a1 2 (by omega) (fun hne=>HA.out 0 (by omega)) HV.out];rfl,below_step F0.out (below_step HB.out HB1.out)⟩
   ·have hc:=(zkC (blk_below FS.out HB.out) 3).trans (show _=some (.func (.func 116) #[] #[.pointer (some ⟨gl,0,none⟩)]) from rfl)
    have K:Calls Try.prog 116 #[.pointer (some ⟨gl,0,none⟩)] wr fun e w'=>e=.returned (.bool (valC a0_0 a0_1 a0_2 a0_3 l0_4 a1 3))∧Below wr.heap.size wr w':=(by have z:=cond4 a0_0 a0_1 a0_2 a0_3 A0_4 _ c0_4 gl _ (blk_below FL.out HB.out);rw [HN.out] at z;exact z)
    have HK:=Z0.mk K
    clear K
    cases hv : valC a0_0 a0_1 a0_2 a0_3 l0_4 a1 3 with
    | true =>
     rw [hv] at HK
     have HV:=Lib.hid hv
     clear hv
     go_wp2_with (go_at_call 116;refine HK.out.mono ?_;rintro e w1 ⟨rfl,hb1⟩;have HB1:=Z0.mk hb1;clear hb1)
     go_roundw
     case rel=>exact ⟨4,by omega,by go_num,all_succ HA.out HV.out,below_step HB.out HB1.out⟩
     case measure=>simp [intOf]
    | false =>
     rw [hv] at HK
     have HV:=Lib.hid hv
     clear hv
     go_wp2_with (go_at_call 116;refine HK.out.mono ?_;rintro e w1 ⟨rfl,hb1⟩;have HB1:=Z0.mk hb1;clear hb1)
     go_ret
     exact ⟨by rw [← HRR.out,valC_none a0_0 a0_1 a0_2 a0_3 l0_4 a1 3 (by omega) (fun hne=>HA.out 0 (by omega)) HV.out];rfl,below_step F0.out (below_step HB.out HB1.out)⟩
   ·have hc:=(zkC (blk_below FS.out HB.out) 4).trans (show _=some (.func (.func 117) #[] #[.pointer (some ⟨gl,0,none⟩)]) from rfl)
    have K:Calls Try.prog 117 #[.pointer (some ⟨gl,0,none⟩)] wr fun e w'=>e=.returned (.bool (valC a0_0 a0_1 a0_2 a0_3 l0_4 a1 4))∧Below wr.heap.size wr w':=cond5 a0_0 a0_1 a0_2 a0_3 A0_4 c0_4 l0_4 gl _ (by have z:=blk_below FL.out HB.out;rwa [HN.out] at z) (Kd.C_below (Kd.C_below HROW.out.1 F0.out) HB.out) HROW.out.2 HOK.out
    have HK:=Z0.mk K
    clear K
    cases hv : valC a0_0 a0_1 a0_2 a0_3 l0_4 a1 4 with
    | true =>
     rw [hv] at HK
     have HV:=Lib.hid hv
     clear hv
     go_wp2_with (go_at_call 117;refine HK.out.mono ?_;rintro e w1 ⟨rfl,hb1⟩;have HB1:=Z0.mk hb1;clear hb1)
     go_roundw
     case rel=>exact ⟨5,by omega,by go_num,all_succ HA.out HV.out,below_step HB.out HB1.out⟩
     case measure=>simp [intOf]
    | false =>
     rw [hv] at HK
     have HV:=Lib.hid hv
     clear hv
     go_wp2_with (go_at_call 117;refine HK.out.mono ?_;rintro e w1 ⟨rfl,hb1⟩;have HB1:=Z0.mk hb1;clear hb1)
     go_ret
     exact ⟨by rw [← HRR.out,valC_none a0_0 a0_1 a0_2 a0_3 l0_4 a1 4 (by omega) (fun hne=>HA.out 0 (by omega)) HV.out];rfl,below_step F0.out (below_step HB.out HB1.out)⟩
   ·have hc:=(zkC (blk_below FS.out HB.out) 5).trans (show _=some (.func (.func 118) #[] #[.pointer (some ⟨gl,0,none⟩),.pointer (some ⟨gf,0,none⟩),.pointer (some ⟨gt,0,none⟩)]) from rfl)
    have K:Calls Try.prog 118 #[.pointer (some ⟨gl,0,none⟩),.pointer (some ⟨gf,0,none⟩),.pointer (some ⟨gt,0,none⟩)] wr fun e w'=>e=.returned (.bool (valC a0_0 a0_1 a0_2 a0_3 l0_4 a1 5))∧Below wr.heap.size wr w':=cond6 a0_0 a0_1 a0_2 a0_3 A0_4 c0_4 l0_4 (tableT a1) a1 gl gf gt _ (by have z:=blk_below FL.out HB.out;rwa [HN.out] at z) (by have z:=blk_below FF.out HB.out;rwa [HTT.out] at z) (blk_below FT.out HB.out) ⟨Kd.C_below (Kd.C_below HROW.out.1 F0.out) HB.out,HROW.out.2⟩ (joined_fine (HA.out 4 (by omega))) (okL_len HOK.out)
    have HK:=Z0.mk K
    clear K
    cases hv : valC a0_0 a0_1 a0_2 a0_3 l0_4 a1 5 with
    | true =>
     rw [hv] at HK
     have HV:=Lib.hid hv
     clear hv
     go_wp2_with (go_at_call 118;refine HK.out.mono ?_;rintro e w1 ⟨rfl,hb1⟩;have HB1:=Z0.mk hb1;clear hb1)
     go_roundw
     case rel=>exact ⟨6,by omega,by go_num,all_succ HA.out HV.out,below_step HB.out HB1.out⟩
     case measure=>simp [intOf]
    | false =>
     rw [hv] at HK
     have HV:=Lib.hid hv
     clear hv
     go_wp2_with (go_at_call 118;refine HK.out.mono ?_;rintro e w1 ⟨rfl,hb1⟩;have HB1:=Z0.mk hb1;clear hb1)
     go_ret
     exact ⟨by rw [← HRR.out,valC_none a0_0 a0_1 a0_2 a0_3 l0_4 a1 5 (by omega) (fun hne=>HA.out 0 (by omega)) HV.out];rfl,below_step F0.out (below_step HB.out HB1.out)⟩
   go_wp2
   go_ret
   exact ⟨by rw [← HRR.out,valC_all a0_0 a0_1 a0_2 a0_3 l0_4 a1 HA.out];rfl,below_step F0.out HB.out⟩
 rw [if_neg hok] at h
 exact absurd h (by simp)
end Go.Proofs.Ytegefemkmdlmaaa.P
end
section
namespace Go.Proofs.Ytegefemkmdlmaaa.P
open Go.RowKit Go.Proofs.YtegefemkmdlmaaaW.PrintWords Go.Proofs.YtegefemkmdlmaaaW.PrintLast Go.Proofs.YtegefemkmdlmaaaW.PrintMore
attribute [local go_sem] max2_int min2_int max_two min_two max_three min_three max_four min_four
set_option linter.unusedVariables false
set_option linter.unusedSimpArgs false
def label_fill.f (a0:ByteArray):Option (ByteArray):=if 0≤(wrap64 (1024 - (a0.size:Int))) then (if (wrap64 (1024 - (a0.size:Int)):Int).toNat≤281474976710656 then ((some (List.replicate (wrap64 (1024 - (a0.size:Int)):Int).toNat 0:List Int)).bind fun y365=>(if a0.size + (strOfNums y365).size≤9223372036854775807 then (some (a0++(strOfNums y365))) else (none))) else (none)) else (none)
set_option maxHeartbeats 8000000 in
set_option maxRecDepth 100000 in
theorem label_fill.calls (a0:ByteArray) (r:ByteArray) (w:World) (h : label_fill.f a0=some r) :
  Calls Try.prog 101 #[.string a0] w fun e w'=>e=.returned (.string r)∧Below w.heap.size w w':=by
 have HB:=Z0.mk (Below.refl w.heap.size w)
 have H:(if 0≤(wrap64 (1024 - (a0.size:Int))) then (if (wrap64 (1024 - (a0.size:Int)):Int).toNat≤281474976710656 then ((some (List.replicate (wrap64 (1024 - (a0.size:Int)):Int).toNat 0:List Int)).bind fun y365=>(if a0.size + (strOfNums y365).size≤9223372036854775807 then (some (a0++(strOfNums y365))) else (none))) else (none)) else (none))=some r:=h
 clear h
 obtain ⟨ji2,hji2⟩:∃ j_:Int,(wrap64 (1024 - (a0.size:Int)))=j_:=⟨_,rfl⟩
 replace H:(if 0≤(ji2) then (if (ji2:Int).toNat≤281474976710656 then ((some (List.replicate (ji2:Int).toNat 0:List Int)).bind fun y365=>(if a0.size + (strOfNums y365).size≤9223372036854775807 then (some (a0++(strOfNums y365))) else (none))) else (none)) else (none))=some r:=by first|(rw [hji2] at H;exact H)|(simp only [hji2] at H ⊢;exact H)
 have hji2w:(IntKind.i64.wrap (1024 - (a0.size:Int)))=ji2:=(i64_w _).trans hji2
 by_cases c3 : 0≤(ji2)
 ·rw [if_pos c3] at H
  have c3b0:=eq_true c3
  have c3b1 : decide (0≤(ji2))=true:=decide_eq_true c3
  clear c3
  by_cases c4:(ji2:Int).toNat≤281474976710656
  ·rw [if_pos c4] at H
   have c4b0:=eq_true c4
   have c4b1 : decide ((ji2:Int).toNat≤281474976710656)=true:=decide_eq_true c4
   clear c4
   obtain ⟨y365,hy365⟩:∃ y_:List Int,y_=(List.replicate (ji2:Int).toNat 0):=⟨_,rfl⟩
   replace H:(if a0.size + (strOfNums y365).size≤9223372036854775807 then (some (a0++(strOfNums y365))) else (none))=some r:=by first|(rw [hy365];with_reducible exact H)|(have H2_:=(Option.bind_some _ _).symm.trans H;rw [hy365];with_reducible exact H2_)|(have H2_:=(Option.bind_some _ _).symm.trans H;with_reducible exact H2_)|with_reducible exact H|(rw [hy365];exact H)|exact H
   have Ny365:=Z0.mk hy365
   clear hy365
   by_cases c5 : a0.size + (strOfNums y365).size≤9223372036854775807
   ·rw [if_pos c5] at H
    have c5b0:=eq_true c5
    have c5b1 : decide (a0.size + (strOfNums y365).size≤9223372036854775807)=true:=decide_eq_true c5
    try have c5b2:(9223372036854775807 < a0.size + (strOfNums y365).size)=False:=eq_false (Nat.not_lt.2 c5)
    obtain rfl:=Option.some.inj H
    go_enter Try.func101,Try.ntmps101
    go_wp2_with (first|((with_reducible refine gate_dst (N:=7) rfl ?_);refine Kd.R_make (Kd.int .u8) _ 5 rfl (N:=7) rfl 99 _ _ rfl ji2 rfl rfl Try.underlying99 (.int .u8 0) 1 info5 rfl (by decide) (by omega) 0 (ok:=fun _=>True) (okp:=fun _=>True) rfl (fun _ hk=>hk) trivial (of_decide_eq_true (by first|(with_reducible assumption)|assumption)) (Nat.le_trans (Nat.mul_le_mul_right _ (of_decide_eq_true (by first|(with_reducible assumption)|assumption) : ji2.toNat≤281474976710656)) (by omega)) (Below.refl _ _) (Nat.le_refl _) ?_;intro v366 w6 ho7 hb hg_ hnew_;clear hg_ hnew_;(first|rw [← Ny365.out] at ho7|(simp only [Int.reduceToNat] at ho7;rw [← Ny365.out] at ho7));have n0_:=Z0.mk (Kd.R_lower ho7 (below_size (by repeat (first|(with_reducible first|exact HB.out|apply zbA|apply zbN|apply zb1)|exact HB.out))));have n1_:=Z0.mk (below_step (by repeat (first|(with_reducible first|exact HB.out|apply zbA|apply zbN|apply zb1)|exact HB.out)) hb);clear HB;have HO367:=n0_;have HB:=n1_;clear n0_ n1_;clear hb ho7;have hcv8:=own_string (P:=Try.prog) Try.underlying99 Try.underlying5 Try.underlying9 (Kd.own_of_R HO367.out)))
    go_ret
    exact ⟨by first|rfl|(simp [errW_none,errW_some] <;> rfl)|(simp only [← hji2];first|rfl|(simp [errW_none,errW_some] <;> rfl))|(simp [*,errW_none,errW_some] <;> rfl),by repeat (first|(with_reducible first|exact HB.out|apply zbA|apply zbN|apply zb1)|exact HB.out)⟩
   rw [if_neg c5] at H
   exact absurd H (by simp)
  rw [if_neg c4] at H
  exact absurd H (by simp)
 rw [if_neg c3] at H
 exact absurd H (by simp)
end Go.Proofs.Ytegefemkmdlmaaa.P
end
section
namespace Go.Proofs.Ytegefemkmdlmaaa.P
open Go.RowKit Go.Proofs.YtegefemkmdlmaaaW.PrintWords Go.Proofs.YtegefemkmdlmaaaW.PrintLast Go.Proofs.YtegefemkmdlmaaaW.PrintMore
attribute [local go_sem] max2_int min2_int max_two min_two max_three min_three max_four min_four
set_option linter.unusedVariables false
set_option linter.unusedSimpArgs false
mutual
def label_Encode.j0:Nat→Int→Bool→Int→Int→ByteArray→ByteArray→List (S103)→Option (ByteArray)
 | 0,_,_,_,_,_,_,_=>none
 | k + 1,x1,x14,x369000,x369001,x369002,x369003,x369004=>if x14=true then ((label_fill.f (⟨#[]⟩:ByteArray)).bind fun t371=>(some t371)) else ((label_Valid.f x369000 x369001 x369002 x369003 x369004 x1).bind fun t372=>(if t372=true then ((wire_AppendNumber.f (⟨#[]⟩:ByteArray) (IntKind.u64.wrap (x369000))).bind fun t373=>((wire_AppendNumber.f t373 (IntKind.u64.wrap (x369001))).bind fun t374=>((wire_AppendText.f t374 x369002).bind fun t375=>((wire_AppendText.f t375 x369003).bind fun t376=>((wire_AppendNumber.f t376 (IntKind.u64.wrap ((x369004.length:Int)))).bind fun t377=>(label_Encode.l0 k t377 x369004 (x369004.length:Int) 0)))))) else (some (⟨#[]⟩:ByteArray))))
def label_Encode.l0:Nat→ByteArray→List (S103)→Int→Int→Option (ByteArray)
 | 0,_,_,_,_=>none
 | k + 1,x5,x44,x45,x46=>if x46 < x45 then (if 0≤x46 then (if x46 < (x44.length:Int) then ((wire_AppendNumber.f x5 (IntKind.u64.wrap ((rd_T103 x44 x46).f0))).bind fun t380=>((wire_AppendNumber.f t380 (IntKind.u64.wrap ((rd_T103 x44 x46).f1))).bind fun t381=>(label_Encode.l0 k t381 x44 x45 (wrap64 (x46 + 1))))) else (none)) else (none)) else ((label_fill.f x5).bind fun t382=>(some t382))
end
def label_Encode.f (k:Nat) (a0_0:Int) (a0_1:Int) (a0_2:ByteArray) (a0_3:ByteArray) (l0_4:List (S103)) (a1:Int):Option (ByteArray):=(label_tracksOK.f a1).bind fun t369=>(if t369=true then ((label_Equal.f k a0_0 a0_1 a0_2 a0_3 l0_4 0 0 (⟨#[]⟩:ByteArray) (⟨#[]⟩:ByteArray) ([]:List (S103))).bind fun t370=>(label_Encode.j0 k a1 t370 a0_0 a0_1 a0_2 a0_3 l0_4)) else (label_Encode.j0 k a1 false a0_0 a0_1 a0_2 a0_3 l0_4))
theorem label_Encode.mono_l:∀ k,(∀ y0 y1 y2 y3 y4 y5 y6,LeO (label_Encode.j0 k y0 y1 y2 y3 y4 y5 y6) (label_Encode.j0 (k + 1) y0 y1 y2 y3 y4 y5 y6))∧(∀ y0 y1 y2 y3,LeO (label_Encode.l0 k y0 y1 y2 y3) (label_Encode.l0 (k + 1) y0 y1 y2 y3))
 | 0=>⟨fun _ _ _ _ _ _ _ r h=>by simp [label_Encode.j0] at h,fun _ _ _ _ r h=>by simp [label_Encode.l0] at h⟩
 | k + 1=>by
  obtain ⟨ih0,ih1⟩:=label_Encode.mono_l k
  refine ⟨?_,?_⟩
  ·intro y0 y1 y2 y3 y4 y5 y6
   unfold label_Encode.j0
   repeat' first
   | (with_reducible exact ih0 _ _ _ _ _ _ _)
   | (with_reducible exact ih1 _ _ _ _)
   | (with_reducible exact label_Equal.mono _ _ _ _ _ _ _ _ _ _ _)
   | (with_reducible exact LeO.refl _)
   | (with_reducible exact LeO.none _)
   | (with_reducible refine LeO.ite ?_ ?_)
   | (with_reducible refine LeO.bind ?_ (fun _=>?_))
   | exact ih0 _ _ _ _ _ _ _
   | exact ih1 _ _ _ _
   | exact label_Equal.mono _ _ _ _ _ _ _ _ _ _ _
   | exact LeO.none _
   | refine LeO.ite ?_ ?_
   | refine LeO.bind ?_ (fun _=>?_)
  intro y0 y1 y2 y3
  unfold label_Encode.l0
  repeat' first
  | (with_reducible exact ih0 _ _ _ _ _ _ _)
  | (with_reducible exact ih1 _ _ _ _)
  | (with_reducible exact label_Equal.mono _ _ _ _ _ _ _ _ _ _ _)
  | (with_reducible exact LeO.refl _)
  | (with_reducible exact LeO.none _)
  | (with_reducible refine LeO.ite ?_ ?_)
  | (with_reducible refine LeO.bind ?_ (fun _=>?_))
  | exact ih0 _ _ _ _ _ _ _
  | exact ih1 _ _ _ _
  | exact label_Equal.mono _ _ _ _ _ _ _ _ _ _ _
  | exact LeO.none _
  | refine LeO.ite ?_ ?_
  | refine LeO.bind ?_ (fun _=>?_)
theorem label_Encode.mono:∀ a0 a1 a2 a3 a4 a5 k,LeO (label_Encode.f k a0 a1 a2 a3 a4 a5) (label_Encode.f (k + 1) a0 a1 a2 a3 a4 a5):=by
 intro a0 a1 a2 a3 a4 a5 k
 obtain ⟨ih0,ih1⟩:=label_Encode.mono_l k
 unfold label_Encode.f
 repeat' first
   | (with_reducible exact ih0 _ _ _ _ _ _ _)
   | (with_reducible exact ih1 _ _ _ _)
   | (with_reducible exact label_Equal.mono _ _ _ _ _ _ _ _ _ _ _)
   | (with_reducible exact LeO.refl _)
   | (with_reducible exact LeO.none _)
   | (with_reducible refine LeO.ite ?_ ?_)
   | (with_reducible refine LeO.bind ?_ (fun _=>?_))
   | exact ih0 _ _ _ _ _ _ _
   | exact ih1 _ _ _ _
   | exact label_Equal.mono _ _ _ _ _ _ _ _ _ _ _
   | exact LeO.none _
   | refine LeO.ite ?_ ?_
   | refine LeO.bind ?_ (fun _=>?_)
def label_Encode.T13:Bool×List (List Nat×List Nat):=(true,[([],[]),([],[]),([1],[1]),([2],[2]),([0,3],[0,3]),([],[]),([5],[5]),([6],[6]),([4,7,4],[4,7]),([8,8,0,1,2,3,4,5,6,7,8],[0,8])])
def label_Encode.B13:List Nat:=[0,0,2,6,15,0,32,96,255,511]
theorem label_Encode.tab13 : rtab .any (opsOf Try.f59 13)=label_Encode.T13:=by kernel_rfl
theorem label_Encode.bits13 : waitsOk label_Encode.T13.2 label_Encode.B13=true:=by kernel_rfl
set_option maxHeartbeats 8000000 in
set_option maxRecDepth 100000 in
theorem label_Encode.calls (k:Nat) (a0_0:Int) (a0_1:Int) (a0_2:ByteArray) (a0_3:ByteArray) (A0_4:Option Addr) (c0_4:Nat) (l0_4:List (S103)) (a1:Int) (r:ByteArray) (w:World) (hr0_4:Kd.C k103 w A0_4 l0_4.length l0_4) (hc0_4 : l0_4.length≤c0_4) (h : label_Encode.f k a0_0 a0_1 a0_2 a0_3 l0_4 a1=some r) :
  Calls Try.prog 59 #[.agg #[.int .i64 a0_0,.int .i64 a0_1,.string a0_2,.string a0_3,.slice A0_4 l0_4.length c0_4],.int .i64 a1] w fun e w'=>e=.returned (.string r)∧Below w.heap.size w w':=by
 have hu55:=Try.underlying55
 have hu103:=Try.underlying103
 have HR0_4:=Z0.mk hr0_4
 have HC0_4:=Z0.mk hc0_4
 clear hr0_4 hc0_4
 have HB:=Z0.mk (Below.refl w.heap.size w)
 have H:((label_tracksOK.f a1).bind fun t369=>(if t369=true then ((label_Equal.f k a0_0 a0_1 a0_2 a0_3 l0_4 0 0 (⟨#[]⟩:ByteArray) (⟨#[]⟩:ByteArray) ([]:List (S103))).bind fun t370=>(label_Encode.j0 k a1 t370 a0_0 a0_1 a0_2 a0_3 l0_4)) else (label_Encode.j0 k a1 false a0_0 a0_1 a0_2 a0_3 l0_4)))=some r:=h
 clear h
 have HC3:=Z0.mk H
 clear H
 go_enter Try.func59,Try.ntmps59
 go_upto_region 1 with (first|((with_reducible refine gate_dst (N:=2) rfl ?_);refine box_event ?hg (N:=2) ?hd (cs:=#[.int .i64 a0_0,.int .i64 a0_1,.string a0_2,.string a0_3,.slice A0_4 l0_4.length c0_4]) (t:=55) ?hr ?_;(case hd=>rfl);(case hg=>rfl);(case hr=>first|(go_simp;done)|(go_simp;rfl));intro gb368 hg w4 hbox hb;have n0_:=Z0.mk (below_step (by repeat (first|(with_reducible first|exact HB.out|apply zbA|apply zbN|apply zb1)|exact HB.out)) hb);have n1_:=Z0.mk (hbox);have n2_:=Z0.mk ((by rw [hg];exact (below_size (by repeat (first|(with_reducible first|exact HB.out|apply zbA|apply zbN|apply zb1)|exact HB.out))) : w.heap.size≤gb368));have n3_:=Z0.mk ((by rw [hg];exact (below_size (by repeat (first|(with_reducible first|exact HB.out|apply zbA|apply zbN|apply zb1)|exact HB.out))) : w.heap.size≤gb368));clear HB;have HB:=n0_;have BK368:=n1_;have GW368:=n2_;have GE368:=n3_;clear n0_ n1_ n2_ n3_;clear hb hbox hg))
 (try simp only [Act.put,List.setIfInBounds_toArray,List.set_cons_zero,List.set_cons_succ])
 go_cut [14] (fun v14 wc=>∃ (kq:Nat) (x14_2:Bool),v14=.bool x14_2∧Z0 (label_Encode.j0 kq a1 x14_2 a0_0 a0_1 a0_2 a0_3 l0_4=some r)∧Z0 (kq≤k)∧Z0 (wc.heap[gb368]?=some (.cells #[.int .i64 a0_0,.int .i64 a0_1,.string a0_2,.string a0_3,(.slice A0_4 l0_4.length c0_4)] 55 (0,0)))∧Z0 (Below w.heap.size w wc))
 case first =>
  have H:=HC3.out
  clear HC3
  replace H:=Option.bind_eq_some_iff.mp H
  obtain ⟨t369,A50,H⟩:=H
  replace H:(if t369=true then ((label_Equal.f k a0_0 a0_1 a0_2 a0_3 l0_4 0 0 (⟨#[]⟩:ByteArray) (⟨#[]⟩:ByteArray) ([]:List (S103))).bind fun t370=>(label_Encode.j0 k a1 t370 a0_0 a0_1 a0_2 a0_3 l0_4)) else (label_Encode.j0 k a1 false a0_0 a0_1 a0_2 a0_3 l0_4))=some r:=H
  have A5:=Z0.mk A50
  clear A50
  by_cases c6 : t369=true
  ·subst c6
   have H1:((label_Equal.f k a0_0 a0_1 a0_2 a0_3 l0_4 0 0 (⟨#[]⟩:ByteArray) (⟨#[]⟩:ByteArray) ([]:List (S103))).bind fun t370=>(label_Encode.j0 k a1 t370 a0_0 a0_1 a0_2 a0_3 l0_4))=some r:=by rw [if_pos rfl] at H;exact H
   clear H
   have H:=H1
   clear H1
   replace H:=Option.bind_eq_some_iff.mp H
   obtain ⟨t370,A70,H⟩:=H
   replace H:(label_Encode.j0 k a1 t370 a0_0 a0_1 a0_2 a0_3 l0_4)=some r:=H
   have A7:=Z0.mk A70
   clear A70
   have H':=Z0.mk H
   clear H
   go_wp2_with (first|((with_reducible refine gate_callee (f:=100) rfl ?_);refine goesL_ (some 9) rfl rfl Try.func100 (by kernel_rfl) rfl #[.int .i64 a1] rfl (by (try simp only [List.map_toArray,List.map_cons,List.map_nil]);first|done|rfl|(simp only [List.length_drop,List.length_take];rfl)) ?_;(with_reducible refine (label_tracksOK.calls a1 true _ A5.out).mono ?_);rintro e w' ⟨rfl,⟨nd,rfl⟩⟩;refine ⟨_,rfl,?_⟩;have hcz8_0 : w4.cell? ⟨gb368,0,none⟩=some (.int .i64 a0_0):=(zkC BK368.out 0).trans rfl;have hcz8_1 : w4.cell? ⟨gb368,1,none⟩=some (.int .i64 a0_1):=(zkC BK368.out 1).trans rfl;have hcz8_2 : w4.cell? ⟨gb368,2,none⟩=some (.string a0_2):=(zkC BK368.out 2).trans rfl;have hcz8_3 : w4.cell? ⟨gb368,3,none⟩=some (.string a0_3):=(zkC BK368.out 3).trans rfl;have hcz8_4 : w4.cell? ⟨gb368,4,none⟩=some (.slice A0_4 l0_4.length c0_4):=(zkC BK368.out 4).trans rfl;have hfz8_0:=zkF BK368.out 0;have hfz8_1:=zkF BK368.out 1;have hfz8_2:=zkF BK368.out 2;have hfz8_3:=zkF BK368.out 3;have hfz8_4:=zkF BK368.out 4)|(go_at_call 60;(refine (label_Equal.calls k a0_0 a0_1 a0_2 a0_3 _ _ l0_4 0 0 (⟨#[]⟩:ByteArray) (⟨#[]⟩:ByteArray) _ _ ([]:List (S103)) t370 _ ?side1 ?side2 ?side3 ?side4 A7.out).mono ?_);(case side1=>repeat (first|exact (Kd.C_below HR0_4.out (by repeat (first|(with_reducible first|exact HB.out|apply zbA|apply zbN|apply zb1|refine zbS ?_ GE368.out)|exact HB.out)))|(with_reducible refine Kd.C_alloc ?_ _)|(with_reducible refine Kd.C_drewN ?_ _)|(with_reducible refine Kd.C_drew ?_)));(case side2=>exact HC0_4.out);(case side3=>exact Kd.C_nil _ _);(case side4=>exact Nat.le_refl _);rintro e w9 ⟨rfl,hb⟩;have n0_:=Z0.mk (blk_below (g:=gb368) (o:=.cells #[.int .i64 a0_0,.int .i64 a0_1,.string a0_2,.string a0_3,.slice A0_4 l0_4.length c0_4] 55 (0,0)) (by (with_reducible repeat (first|refine zkN ?_ _|refine zkD ?_|refine zkA ?_ _));exact BK368.out) hb);have n1_:=Z0.mk (below_step (by repeat (first|(with_reducible first|exact HB.out|apply zbA|apply zbN|apply zb1|refine zbS ?_ GE368.out)|exact HB.out)) hb);clear BK368;clear HB;have BK368:=n0_;have HB:=n1_;clear n0_ n1_;(try clear hb);(try clear hb2);(try clear hk);(try clear hi)))
   go_meet
   case rel=>exact ⟨_,(t370),(by first|rfl|(simp;done)|(simp [*];done)),H',⟨by first|omega|exact Nat.le_refl _⟩,⟨by (with_reducible repeat (first|refine zkN ?_ _|refine zkD ?_|refine zkA ?_ _));exact BK368.out⟩,⟨by repeat (first|(with_reducible first|exact HB.out|apply zbA|apply zbN|apply zb1|refine zbS ?_ GE368.out)|exact HB.out)⟩⟩
  replace c6:=Bool.eq_false_iff.mpr c6
  subst c6
  have H1:(label_Encode.j0 k a1 false a0_0 a0_1 a0_2 a0_3 l0_4)=some r:=by rw [if_neg (show ¬ (false=true) by decide)] at H;exact H
  clear H
  have H:=H1
  clear H1
  have H':=Z0.mk H
  clear H
  go_wp2_with (first|((with_reducible refine gate_callee (f:=100) rfl ?_);refine goesL_ (some 9) rfl rfl Try.func100 (by kernel_rfl) rfl #[.int .i64 a1] rfl (by (try simp only [List.map_toArray,List.map_cons,List.map_nil]);first|done|rfl|(simp only [List.length_drop,List.length_take];rfl)) ?_;(with_reducible refine (label_tracksOK.calls a1 false _ A5.out).mono ?_);rintro e w' ⟨rfl,⟨nd,rfl⟩⟩;refine ⟨_,rfl,?_⟩))
  go_meet
  case rel=>exact ⟨_,(false),(by first|rfl|(simp;done)|(simp [*];done)),H',⟨by first|omega|exact Nat.le_refl _⟩,⟨by (with_reducible repeat (first|refine zkN ?_ _|refine zkD ?_|refine zkA ?_ _));exact BK368.out⟩,⟨by repeat (first|(with_reducible first|exact HB.out|apply zbA|apply zbN|apply zb1|refine zbS ?_ GE368.out)|exact HB.out)⟩⟩
 case rest =>
  clear HC3
  try clear c1
  try clear p2
  try clear c5
  try clear c6
  try clear hcz8_0
  try clear hcz8_1
  try clear hcz8_2
  try clear hcz8_3
  try clear hcz8_4
  try clear hfz8_0
  try clear hfz8_1
  try clear hfz8_2
  try clear hfz8_3
  try clear hfz8_4
  obtain ⟨kq,x14_2,rfl,HA,HJ2,BK368,HB⟩:=hcut
  cases kq with
  | zero=>exact absurd HA.out (by simp [label_Encode.j0])
  | succ kj2 =>
   have H:=HA.out
   clear HA
   simp only [label_Encode.j0] at H
   by_cases c10 : x14_2=true
   ·subst c10
    have H1:((label_fill.f (⟨#[]⟩:ByteArray)).bind fun t371=>(some t371))=some r:=by rw [if_pos rfl] at H;exact H
    clear H
    have H:=H1
    clear H1
    replace H:=Option.bind_eq_some_iff.mp H
    obtain ⟨t371,A110,H⟩:=H
    replace H:(some t371)=some r:=H
    have A11:=Z0.mk A110
    clear A110
    obtain rfl:=Option.some.inj H
    go_wp2_with (first|((with_reducible refine gate_callee (f:=101) rfl ?_);refine goesL_ (some 15) rfl rfl Try.func101 (by kernel_rfl) rfl #[.string (⟨#[]⟩:ByteArray)] rfl (by (try simp only [List.map_toArray,List.map_cons,List.map_nil]);first|done|rfl|(simp only [List.length_drop,List.length_take];rfl)) ?_;(with_reducible refine (label_fill.calls (⟨#[]⟩:ByteArray) t371 _ A11.out).mono ?_);rintro e w12 ⟨rfl,hb⟩;refine ⟨_,rfl,?_⟩;have n0_:=Z0.mk (blk_below (g:=gb368) (o:=.cells #[.int .i64 a0_0,.int .i64 a0_1,.string a0_2,.string a0_3,.slice A0_4 l0_4.length c0_4] 55 (0,0)) (by (with_reducible repeat (first|refine zkN ?_ _|refine zkD ?_|refine zkA ?_ _));exact BK368.out) hb);have n1_:=Z0.mk (below_step (by repeat (first|(with_reducible first|exact HB.out|apply zbA|apply zbN|apply zb1|refine zbS ?_ GE368.out)|exact HB.out)) hb);clear BK368;clear HB;have BK368:=n0_;have HB:=n1_;clear n0_ n1_;(try clear hb);(try clear hb2);(try clear hk);(try clear hi)))
    go_ret
    exact ⟨by first|rfl|(simp [errW_none,errW_some] <;> rfl)|(simp [*,errW_none,errW_some] <;> rfl),by repeat (first|(with_reducible first|exact HB.out|apply zbA|apply zbN|apply zb1|refine zbS ?_ GE368.out)|exact HB.out)⟩
   replace c10:=Bool.eq_false_iff.mpr c10
   subst c10
   have H1:((label_Valid.f a0_0 a0_1 a0_2 a0_3 l0_4 a1).bind fun t372=>(if t372=true then ((wire_AppendNumber.f (⟨#[]⟩:ByteArray) (IntKind.u64.wrap (a0_0))).bind fun t373=>((wire_AppendNumber.f t373 (IntKind.u64.wrap (a0_1))).bind fun t374=>((wire_AppendText.f t374 a0_2).bind fun t375=>((wire_AppendText.f t375 a0_3).bind fun t376=>((wire_AppendNumber.f t376 (IntKind.u64.wrap ((l0_4.length:Int)))).bind fun t377=>(label_Encode.l0 kj2 t377 l0_4 (l0_4.length:Int) 0)))))) else (some (⟨#[]⟩:ByteArray))))=some r:=by rw [if_neg (show ¬ (false=true) by decide)] at H;exact H
   clear H
   have H:=H1
   clear H1
   replace H:=Option.bind_eq_some_iff.mp H
   obtain ⟨t372,A130,H⟩:=H
   replace H:(if t372=true then ((wire_AppendNumber.f (⟨#[]⟩:ByteArray) (IntKind.u64.wrap (a0_0))).bind fun t373=>((wire_AppendNumber.f t373 (IntKind.u64.wrap (a0_1))).bind fun t374=>((wire_AppendText.f t374 a0_2).bind fun t375=>((wire_AppendText.f t375 a0_3).bind fun t376=>((wire_AppendNumber.f t376 (IntKind.u64.wrap ((l0_4.length:Int)))).bind fun t377=>(label_Encode.l0 kj2 t377 l0_4 (l0_4.length:Int) 0)))))) else (some (⟨#[]⟩:ByteArray)))=some r:=H
   have A13:=Z0.mk A130
   clear A130
   by_cases c14 : t372=true
   ·subst c14
    have H1:((wire_AppendNumber.f (⟨#[]⟩:ByteArray) (IntKind.u64.wrap (a0_0))).bind fun t373=>((wire_AppendNumber.f t373 (IntKind.u64.wrap (a0_1))).bind fun t374=>((wire_AppendText.f t374 a0_2).bind fun t375=>((wire_AppendText.f t375 a0_3).bind fun t376=>((wire_AppendNumber.f t376 (IntKind.u64.wrap ((l0_4.length:Int)))).bind fun t377=>(label_Encode.l0 kj2 t377 l0_4 (l0_4.length:Int) 0))))))=some r:=by rw [if_pos rfl] at H;exact H
    clear H
    have H:=H1
    clear H1
    replace H:=Option.bind_eq_some_iff.mp H
    obtain ⟨t373,A150,H⟩:=H
    replace H:((wire_AppendNumber.f t373 (IntKind.u64.wrap (a0_1))).bind fun t374=>((wire_AppendText.f t374 a0_2).bind fun t375=>((wire_AppendText.f t375 a0_3).bind fun t376=>((wire_AppendNumber.f t376 (IntKind.u64.wrap ((l0_4.length:Int)))).bind fun t377=>(label_Encode.l0 kj2 t377 l0_4 (l0_4.length:Int) 0)))))=some r:=H
    have A15:=Z0.mk A150
    clear A150
    replace H:=Option.bind_eq_some_iff.mp H
    obtain ⟨t374,A160,H⟩:=H
    replace H:((wire_AppendText.f t374 a0_2).bind fun t375=>((wire_AppendText.f t375 a0_3).bind fun t376=>((wire_AppendNumber.f t376 (IntKind.u64.wrap ((l0_4.length:Int)))).bind fun t377=>(label_Encode.l0 kj2 t377 l0_4 (l0_4.length:Int) 0))))=some r:=H
    have A16:=Z0.mk A160
    clear A160
    replace H:=Option.bind_eq_some_iff.mp H
    obtain ⟨t375,A170,H⟩:=H
    replace H:((wire_AppendText.f t375 a0_3).bind fun t376=>((wire_AppendNumber.f t376 (IntKind.u64.wrap ((l0_4.length:Int)))).bind fun t377=>(label_Encode.l0 kj2 t377 l0_4 (l0_4.length:Int) 0)))=some r:=H
    have A17:=Z0.mk A170
    clear A170
    replace H:=Option.bind_eq_some_iff.mp H
    obtain ⟨t376,A180,H⟩:=H
    replace H:((wire_AppendNumber.f t376 (IntKind.u64.wrap ((l0_4.length:Int)))).bind fun t377=>(label_Encode.l0 kj2 t377 l0_4 (l0_4.length:Int) 0))=some r:=H
    have A18:=Z0.mk A180
    clear A180
    replace H:=Option.bind_eq_some_iff.mp H
    obtain ⟨t377,A190,H⟩:=H
    replace H:(label_Encode.l0 kj2 t377 l0_4 (l0_4.length:Int) 0)=some r:=H
    have A19:=Z0.mk A190
    clear A190
    have H':=Z0.mk H
    clear H
    have hcz20_0 : wc.cell? ⟨gb368,0,none⟩=some (.int .i64 a0_0):=(zkC BK368.out 0).trans rfl
    have hcz20_1 : wc.cell? ⟨gb368,1,none⟩=some (.int .i64 a0_1):=(zkC BK368.out 1).trans rfl
    have hcz20_2 : wc.cell? ⟨gb368,2,none⟩=some (.string a0_2):=(zkC BK368.out 2).trans rfl
    have hcz20_3 : wc.cell? ⟨gb368,3,none⟩=some (.string a0_3):=(zkC BK368.out 3).trans rfl
    have hcz20_4 : wc.cell? ⟨gb368,4,none⟩=some (.slice A0_4 l0_4.length c0_4):=(zkC BK368.out 4).trans rfl
    have hfz20_0:=zkF BK368.out 0
    have hfz20_1:=zkF BK368.out 1
    have hfz20_2:=zkF BK368.out 2
    have hfz20_3:=zkF BK368.out 3
    have hfz20_4:=zkF BK368.out 4
    go_wp2_with (first|((with_reducible refine gate_callee (f:=85) rfl ?_);refine goesL_ (some 18) rfl rfl Try.func85 (by kernel_rfl) rfl #[.agg #[.int .i64 a0_0,.int .i64 a0_1,.string a0_2,.string a0_3,.slice A0_4 l0_4.length c0_4],.int .i64 a1] rfl (by (try simp only [List.map_toArray,List.map_cons,List.map_nil]);first|done|rfl|(simp only [List.length_drop,List.length_take];rfl)) ?_;(with_reducible refine (label_Valid.calls a0_0 a0_1 a0_2 a0_3 _ _ l0_4 a1 true _ ?side1 ?side2 A13.out).mono ?_);(case side1=>repeat (first|exact (Kd.C_below HR0_4.out HB.out)|(with_reducible refine Kd.C_alloc ?_ _)|(with_reducible refine Kd.C_drewN ?_ _)|(with_reducible refine Kd.C_drew ?_)));(case side2=>exact HC0_4.out);rintro e w21 ⟨rfl,hb⟩;refine ⟨_,rfl,?_⟩;have n0_:=Z0.mk (blk_below (g:=gb368) (o:=.cells #[.int .i64 a0_0,.int .i64 a0_1,.string a0_2,.string a0_3,.slice A0_4 l0_4.length c0_4] 55 (0,0)) (by (with_reducible repeat (first|refine zkN ?_ _|refine zkD ?_|refine zkA ?_ _));exact BK368.out) hb);have n1_:=Z0.mk (below_step (by repeat (first|(with_reducible first|exact HB.out|apply zbA|apply zbN|apply zb1|refine zbS ?_ GE368.out)|exact HB.out)) hb);clear BK368;clear HB;have BK368:=n0_;have HB:=n1_;clear n0_ n1_;(try clear hb);(try clear hb2);(try clear hk);(try clear hi);have hcz22_0 : w21.cell? ⟨gb368,0,none⟩=some (.int .i64 a0_0):=(zkC BK368.out 0).trans rfl;have hcz22_1 : w21.cell? ⟨gb368,1,none⟩=some (.int .i64 a0_1):=(zkC BK368.out 1).trans rfl;have hcz22_2 : w21.cell? ⟨gb368,2,none⟩=some (.string a0_2):=(zkC BK368.out 2).trans rfl;have hcz22_3 : w21.cell? ⟨gb368,3,none⟩=some (.string a0_3):=(zkC BK368.out 3).trans rfl;have hcz22_4 : w21.cell? ⟨gb368,4,none⟩=some (.slice A0_4 l0_4.length c0_4):=(zkC BK368.out 4).trans rfl;have hfz22_0:=zkF BK368.out 0;have hfz22_1:=zkF BK368.out 1;have hfz22_2:=zkF BK368.out 2;have hfz22_3:=zkF BK368.out 3;have hfz22_4:=zkF BK368.out 4)|((with_reducible refine gate_callee (f:=26) rfl ?_);refine goesL_ (some 23) rfl rfl Try.func26 (by kernel_rfl) rfl #[.string (⟨#[]⟩:ByteArray),.int .u64 (IntKind.u64.wrap (a0_0))] rfl (by (try simp only [List.map_toArray,List.map_cons,List.map_nil]);first|done|rfl|(simp only [List.length_drop,List.length_take];rfl)) ?_;(with_reducible refine (wire_AppendNumber.calls (⟨#[]⟩:ByteArray) (IntKind.u64.wrap (a0_0)) t373 _ A15.out).mono ?_);rintro e w23 ⟨rfl,hb⟩;refine ⟨_,rfl,?_⟩;have n0_:=Z0.mk (blk_below (g:=gb368) (o:=.cells #[.int .i64 a0_0,.int .i64 a0_1,.string a0_2,.string a0_3,.slice A0_4 l0_4.length c0_4] 55 (0,0)) (by (with_reducible repeat (first|refine zkN ?_ _|refine zkD ?_|refine zkA ?_ _));exact BK368.out) hb);have n1_:=Z0.mk (below_step (by repeat (first|(with_reducible first|exact HB.out|apply zbA|apply zbN|apply zb1|refine zbS ?_ GE368.out)|exact HB.out)) hb);clear BK368;clear HB;have BK368:=n0_;have HB:=n1_;clear n0_ n1_;(try clear hb);(try clear hb2);(try clear hk);(try clear hi);have hcz24_0 : w23.cell? ⟨gb368,0,none⟩=some (.int .i64 a0_0):=(zkC BK368.out 0).trans rfl;have hcz24_1 : w23.cell? ⟨gb368,1,none⟩=some (.int .i64 a0_1):=(zkC BK368.out 1).trans rfl;have hcz24_2 : w23.cell? ⟨gb368,2,none⟩=some (.string a0_2):=(zkC BK368.out 2).trans rfl;have hcz24_3 : w23.cell? ⟨gb368,3,none⟩=some (.string a0_3):=(zkC BK368.out 3).trans rfl;have hcz24_4 : w23.cell? ⟨gb368,4,none⟩=some (.slice A0_4 l0_4.length c0_4):=(zkC BK368.out 4).trans rfl;have hfz24_0:=zkF BK368.out 0;have hfz24_1:=zkF BK368.out 1;have hfz24_2:=zkF BK368.out 2;have hfz24_3:=zkF BK368.out 3;have hfz24_4:=zkF BK368.out 4)|((with_reducible refine gate_callee (f:=26) rfl ?_);refine goesL_ (some 28) rfl rfl Try.func26 (by kernel_rfl) rfl #[.string t373,.int .u64 (IntKind.u64.wrap (a0_1))] rfl (by (try simp only [List.map_toArray,List.map_cons,List.map_nil]);first|done|rfl|(simp only [List.length_drop,List.length_take];rfl)) ?_;(with_reducible refine (wire_AppendNumber.calls t373 (IntKind.u64.wrap (a0_1)) t374 _ A16.out).mono ?_);rintro e w25 ⟨rfl,hb⟩;refine ⟨_,rfl,?_⟩;have n0_:=Z0.mk (blk_below (g:=gb368) (o:=.cells #[.int .i64 a0_0,.int .i64 a0_1,.string a0_2,.string a0_3,.slice A0_4 l0_4.length c0_4] 55 (0,0)) (by (with_reducible repeat (first|refine zkN ?_ _|refine zkD ?_|refine zkA ?_ _));exact BK368.out) hb);have n1_:=Z0.mk (below_step (by repeat (first|(with_reducible first|exact HB.out|apply zbA|apply zbN|apply zb1|refine zbS ?_ GE368.out)|exact HB.out)) hb);clear BK368;clear HB;have BK368:=n0_;have HB:=n1_;clear n0_ n1_;(try clear hb);(try clear hb2);(try clear hk);(try clear hi);have hcz26_0 : w25.cell? ⟨gb368,0,none⟩=some (.int .i64 a0_0):=(zkC BK368.out 0).trans rfl;have hcz26_1 : w25.cell? ⟨gb368,1,none⟩=some (.int .i64 a0_1):=(zkC BK368.out 1).trans rfl;have hcz26_2 : w25.cell? ⟨gb368,2,none⟩=some (.string a0_2):=(zkC BK368.out 2).trans rfl;have hcz26_3 : w25.cell? ⟨gb368,3,none⟩=some (.string a0_3):=(zkC BK368.out 3).trans rfl;have hcz26_4 : w25.cell? ⟨gb368,4,none⟩=some (.slice A0_4 l0_4.length c0_4):=(zkC BK368.out 4).trans rfl;have hfz26_0:=zkF BK368.out 0;have hfz26_1:=zkF BK368.out 1;have hfz26_2:=zkF BK368.out 2;have hfz26_3:=zkF BK368.out 3;have hfz26_4:=zkF BK368.out 4)|((with_reducible refine gate_callee (f:=32) rfl ?_);refine goesL_ (some 32) rfl rfl Try.func32 (by kernel_rfl) rfl #[.string t374,.string a0_2] rfl (by (try simp only [List.map_toArray,List.map_cons,List.map_nil]);first|done|rfl|(simp only [List.length_drop,List.length_take];rfl)) ?_;(with_reducible refine (wire_AppendText.calls t374 a0_2 t375 _ A17.out).mono ?_);rintro e w27 ⟨rfl,hb⟩;refine ⟨_,rfl,?_⟩;have n0_:=Z0.mk (blk_below (g:=gb368) (o:=.cells #[.int .i64 a0_0,.int .i64 a0_1,.string a0_2,.string a0_3,.slice A0_4 l0_4.length c0_4] 55 (0,0)) (by (with_reducible repeat (first|refine zkN ?_ _|refine zkD ?_|refine zkA ?_ _));exact BK368.out) hb);have n1_:=Z0.mk (below_step (by repeat (first|(with_reducible first|exact HB.out|apply zbA|apply zbN|apply zb1|refine zbS ?_ GE368.out)|exact HB.out)) hb);clear BK368;clear HB;have BK368:=n0_;have HB:=n1_;clear n0_ n1_;(try clear hb);(try clear hb2);(try clear hk);(try clear hi);have hcz28_0 : w27.cell? ⟨gb368,0,none⟩=some (.int .i64 a0_0):=(zkC BK368.out 0).trans rfl;have hcz28_1 : w27.cell? ⟨gb368,1,none⟩=some (.int .i64 a0_1):=(zkC BK368.out 1).trans rfl;have hcz28_2 : w27.cell? ⟨gb368,2,none⟩=some (.string a0_2):=(zkC BK368.out 2).trans rfl;have hcz28_3 : w27.cell? ⟨gb368,3,none⟩=some (.string a0_3):=(zkC BK368.out 3).trans rfl;have hcz28_4 : w27.cell? ⟨gb368,4,none⟩=some (.slice A0_4 l0_4.length c0_4):=(zkC BK368.out 4).trans rfl;have hfz28_0:=zkF BK368.out 0;have hfz28_1:=zkF BK368.out 1;have hfz28_2:=zkF BK368.out 2;have hfz28_3:=zkF BK368.out 3;have hfz28_4:=zkF BK368.out 4)|((with_reducible refine gate_callee (f:=32) rfl ?_);refine goesL_ (some 36) rfl rfl Try.func32 (by kernel_rfl) rfl #[.string t375,.string a0_3] rfl (by (try simp only [List.map_toArray,List.map_cons,List.map_nil]);first|done|rfl|(simp only [List.length_drop,List.length_take];rfl)) ?_;(with_reducible refine (wire_AppendText.calls t375 a0_3 t376 _ A18.out).mono ?_);rintro e w29 ⟨rfl,hb⟩;refine ⟨_,rfl,?_⟩;have n0_:=Z0.mk (blk_below (g:=gb368) (o:=.cells #[.int .i64 a0_0,.int .i64 a0_1,.string a0_2,.string a0_3,.slice A0_4 l0_4.length c0_4] 55 (0,0)) (by (with_reducible repeat (first|refine zkN ?_ _|refine zkD ?_|refine zkA ?_ _));exact BK368.out) hb);have n1_:=Z0.mk (below_step (by repeat (first|(with_reducible first|exact HB.out|apply zbA|apply zbN|apply zb1|refine zbS ?_ GE368.out)|exact HB.out)) hb);clear BK368;clear HB;have BK368:=n0_;have HB:=n1_;clear n0_ n1_;(try clear hb);(try clear hb2);(try clear hk);(try clear hi);have hcz30_0 : w29.cell? ⟨gb368,0,none⟩=some (.int .i64 a0_0):=(zkC BK368.out 0).trans rfl;have hcz30_1 : w29.cell? ⟨gb368,1,none⟩=some (.int .i64 a0_1):=(zkC BK368.out 1).trans rfl;have hcz30_2 : w29.cell? ⟨gb368,2,none⟩=some (.string a0_2):=(zkC BK368.out 2).trans rfl;have hcz30_3 : w29.cell? ⟨gb368,3,none⟩=some (.string a0_3):=(zkC BK368.out 3).trans rfl;have hcz30_4 : w29.cell? ⟨gb368,4,none⟩=some (.slice A0_4 l0_4.length c0_4):=(zkC BK368.out 4).trans rfl;have hfz30_0:=zkF BK368.out 0;have hfz30_1:=zkF BK368.out 1;have hfz30_2:=zkF BK368.out 2;have hfz30_3:=zkF BK368.out 3;have hfz30_4:=zkF BK368.out 4)|((with_reducible refine gate_callee (f:=26) rfl ?_);refine goesL_ (some 42) rfl rfl Try.func26 (by kernel_rfl) rfl #[.string t376,.int .u64 (IntKind.u64.wrap ((l0_4.length:Int)))] rfl (by (try simp only [List.map_toArray,List.map_cons,List.map_nil]);first|done|rfl|(simp only [List.length_drop,List.length_take];rfl)) ?_;(with_reducible refine (wire_AppendNumber.calls t376 (IntKind.u64.wrap ((l0_4.length:Int))) t377 _ A19.out).mono ?_);rintro e w31 ⟨rfl,hb⟩;refine ⟨_,rfl,?_⟩;have n0_:=Z0.mk (blk_below (g:=gb368) (o:=.cells #[.int .i64 a0_0,.int .i64 a0_1,.string a0_2,.string a0_3,.slice A0_4 l0_4.length c0_4] 55 (0,0)) (by (with_reducible repeat (first|refine zkN ?_ _|refine zkD ?_|refine zkA ?_ _));exact BK368.out) hb);have n1_:=Z0.mk (below_step (by repeat (first|(with_reducible first|exact HB.out|apply zbA|apply zbN|apply zb1|refine zbS ?_ GE368.out)|exact HB.out)) hb);clear BK368;clear HB;have BK368:=n0_;have HB:=n1_;clear n0_ n1_;(try clear hb);(try clear hb2);(try clear hk);(try clear hi);have hcz32_0 : w31.cell? ⟨gb368,0,none⟩=some (.int .i64 a0_0):=(zkC BK368.out 0).trans rfl;have hcz32_1 : w31.cell? ⟨gb368,1,none⟩=some (.int .i64 a0_1):=(zkC BK368.out 1).trans rfl;have hcz32_2 : w31.cell? ⟨gb368,2,none⟩=some (.string a0_2):=(zkC BK368.out 2).trans rfl;have hcz32_3 : w31.cell? ⟨gb368,3,none⟩=some (.string a0_3):=(zkC BK368.out 3).trans rfl;have hcz32_4 : w31.cell? ⟨gb368,4,none⟩=some (.slice A0_4 l0_4.length c0_4):=(zkC BK368.out 4).trans rfl;have hfz32_0:=zkF BK368.out 0;have hfz32_1:=zkF BK368.out 1;have hfz32_2:=zkF BK368.out 2;have hfz32_3:=zkF BK368.out 3;have hfz32_4:=zkF BK368.out 4))
    go_loopg [5,46] kj2 (fun kq v5 v46 w'=>∃ (x5_2:ByteArray) (x46_2:Int),v5=.string x5_2∧v46=.int .i64 x46_2∧Z0 (label_Encode.l0 kq x5_2 l0_4 (l0_4.length:Int) x46_2=some r)∧Z0 (kq≤kj2)∧Z0 (w'.heap[gb368]?=some (.cells #[.int .i64 a0_0,.int .i64 a0_1,.string a0_2,.string a0_3,(.slice A0_4 l0_4.length c0_4)] 55 (0,0)))∧Z0 (Below w.heap.size w w'))
    case atStart=>exact ⟨(t377),(0),(by first|rfl|(simp;done)|(simp [*];done)),(by first|rfl|(simp;done)|(simp [*];done)),H',⟨Nat.le_refl _⟩,⟨by (with_reducible repeat (first|refine zkN ?_ _|refine zkD ?_|refine zkA ?_ _));exact BK368.out⟩,⟨by repeat (first|(with_reducible first|exact HB.out|apply zbA|apply zbN|apply zb1|refine zbS ?_ GE368.out)|exact HB.out)⟩⟩
    case round =>
     clear H'
     try clear c1
     try clear c2
     try clear p2
     try clear c3
     try clear c5
     try clear c6
     try clear c8
     try clear c10
     try clear c14
     try clear c26
     try clear c32
     try clear hcz20_0
     try clear hcz20_1
     try clear hcz20_2
     try clear hcz20_3
     try clear hcz20_4
     try clear hcz22_0
     try clear hcz22_1
     try clear hcz22_2
     try clear hcz22_3
     try clear hcz22_4
     try clear hcz24_0
     try clear hcz24_1
     try clear hcz24_2
     try clear hcz24_3
     try clear hcz24_4
     try clear hcz26_0
     try clear hcz26_1
     try clear hcz26_2
     try clear hcz26_3
     try clear hcz26_4
     try clear hcz28_0
     try clear hcz28_1
     try clear hcz28_2
     try clear hcz28_3
     try clear hcz28_4
     try clear hcz30_0
     try clear hcz30_1
     try clear hcz30_2
     try clear hcz30_3
     try clear hcz30_4
     try clear hcz32_0
     try clear hcz32_1
     try clear hcz32_2
     try clear hcz32_3
     try clear hcz32_4
     try clear hcz8_0
     try clear hcz8_1
     try clear hcz8_2
     try clear hcz8_3
     try clear hcz8_4
     try clear hfz20_0
     try clear hfz20_1
     try clear hfz20_2
     try clear hfz20_3
     try clear hfz20_4
     try clear hfz22_0
     try clear hfz22_1
     try clear hfz22_2
     try clear hfz22_3
     try clear hfz22_4
     try clear hfz24_0
     try clear hfz24_1
     try clear hfz24_2
     try clear hfz24_3
     try clear hfz24_4
     try clear hfz26_0
     try clear hfz26_1
     try clear hfz26_2
     try clear hfz26_3
     try clear hfz26_4
     try clear hfz28_0
     try clear hfz28_1
     try clear hfz28_2
     try clear hfz28_3
     try clear hfz28_4
     try clear hfz30_0
     try clear hfz30_1
     try clear hfz30_2
     try clear hfz30_3
     try clear hfz30_4
     try clear hfz32_0
     try clear hfz32_1
     try clear hfz32_2
     try clear hfz32_3
     try clear hfz32_4
     try clear hfz8_0
     try clear hfz8_1
     try clear hfz8_2
     try clear hfz8_3
     try clear hfz8_4
     try clear p2
     obtain ⟨x5_2,x46_2,rfl,rfl,HA,HK2,BK368,HB⟩:=hrel
     cases gk with
     | zero=>exact absurd HA.out (by simp [label_Encode.l0])
     | succ k2 =>
      have H:=HA.out
      clear HA
      simp only [label_Encode.l0] at H
      by_cases c33 : x46_2 < (l0_4.length:Int)
      ·rw [if_pos c33] at H
       have c33b0 : decide (x46_2 < (l0_4.length:Int))=true:=decide_eq_true c33
       clear c33
       by_cases c34 : 0≤x46_2
       ·rw [if_pos c34] at H
        have c34b0 : decide (0≤x46_2)=true:=decide_eq_true c34
        clear c34
        by_cases c35 : x46_2 < (l0_4.length:Int)
        ·rw [if_pos c35] at H
         have c35b0 : decide (x46_2 < (l0_4.length:Int))=true:=decide_eq_true c35
         clear c35
         replace H:=Option.bind_eq_some_iff.mp H
         obtain ⟨t380,A360,H⟩:=H
         replace H:((wire_AppendNumber.f t380 (IntKind.u64.wrap ((rd_T103 l0_4 x46_2).f1))).bind fun t381=>(label_Encode.l0 k2 t381 l0_4 (l0_4.length:Int) (wrap64 (x46_2 + 1))))=some r:=H
         have A36:=Z0.mk A360
         clear A360
         replace H:=Option.bind_eq_some_iff.mp H
         obtain ⟨t381,A370,H⟩:=H
         replace H:(label_Encode.l0 k2 t381 l0_4 (l0_4.length:Int) (wrap64 (x46_2 + 1)))=some r:=H
         have A37:=Z0.mk A370
         clear A370
         have H':=Z0.mk H
         clear H
         have p378 : 0≤(x46_2:Int):=of_decide_eq_true (by first|(with_reducible assumption)|assumption)
         have q378 : x46_2 < (l0_4.length:Int):=of_decide_eq_true (by first|(with_reducible assumption)|assumption)
         obtain ⟨ad378,e378,hx378_0,hx378_1⟩:=at_T103 HR0_4.out x46_2 p378 q378
         cases e378
         replace hx378_0:=(HB.out.cell (World.block_lt_of_cell? w _ hx378_0)).trans hx378_0
         replace hx378_1:=(HB.out.cell (World.block_lt_of_cell? w _ hx378_1)).trans hx378_1
         replace p378:=eq_true p378
         replace q378:=eq_true q378
         try go_wp2_with (first|((with_reducible refine gate_dst (N:=7) rfl ?_);refine box_event ?hg (N:=7) ?hd (cs:=#[.int .i64 0,.int .i64 0]) (t:=103) ?hr ?_;(case hd=>rfl);(case hg=>rfl);(case hr=>first|(go_simp;done)|(go_simp;rfl));intro gb379 hg w38 hbox hb;have n0_:=Z0.mk (blk_below (g:=gb368) (o:=.cells #[.int .i64 a0_0,.int .i64 a0_1,.string a0_2,.string a0_3,.slice (some ad378) l0_4.length c0_4] 55 (0,0)) (by (with_reducible repeat (first|refine zkN ?_ _|refine zkD ?_|refine zkA ?_ _));exact BK368.out) hb);have n1_:=Z0.mk (below_step (by repeat (first|(with_reducible first|exact HB.out|apply zbA|apply zbN|apply zb1|refine zbS ?_ GE368.out)|exact HB.out)) hb);have n2_:=Z0.mk (hbox);have n3_:=Z0.mk ((by rw [hg];exact (below_size (by repeat (first|(with_reducible first|exact HB.out|apply zbA|apply zbN|apply zb1|refine zbS ?_ GE368.out)|exact HB.out))) : w.heap.size≤gb379));have n4_:=Z0.mk ((by rw [hg];exact (below_size (by repeat (first|(with_reducible first|exact HB.out|apply zbA|apply zbN|apply zb1|refine zbS ?_ GE368.out)|exact HB.out))) : w.heap.size≤gb379));have n5_:=Z0.mk ((by rw [hg];exact Nat.ne_of_lt (blk_lt (g:=gb368) (o:=.cells #[.int .i64 a0_0,.int .i64 a0_1,.string a0_2,.string a0_3,.slice (some ad378) l0_4.length c0_4] 55 (0,0)) (by (with_reducible repeat (first|refine zkN ?_ _|refine zkD ?_|refine zkA ?_ _));exact BK368.out)) : gb368 ≠ gb379));have n6_:=Z0.mk ((by rw [hg];exact Nat.ne_of_gt (blk_lt (g:=gb368) (o:=.cells #[.int .i64 a0_0,.int .i64 a0_1,.string a0_2,.string a0_3,.slice (some ad378) l0_4.length c0_4] 55 (0,0)) (by (with_reducible repeat (first|refine zkN ?_ _|refine zkD ?_|refine zkA ?_ _));exact BK368.out)) : gb379 ≠ gb368));clear BK368;clear HB;have BK368:=n0_;have HB:=n1_;have BK379:=n2_;have GW379:=n3_;have GE379:=n4_;have NB368_379:=n5_;have NB379_368:=n6_;clear n0_ n1_ n2_ n3_ n4_ n5_ n6_;clear hb hbox hg;have hnb39:=NB379_368.out;have hnc39:=NB368_379.out;have hcz40_0 : w38.cell? ⟨gb379,0,none⟩=some (.int .i64 0):=(zkC BK379.out 0).trans rfl;have hcz40_1 : w38.cell? ⟨gb379,1,none⟩=some (.int .i64 0):=(zkC BK379.out 1).trans rfl;have hfz40_0:=zkF BK379.out 0;have hfz40_1:=zkF BK379.out 1))
         have n0_:Z0 (((w38.setCell ⟨gb379,0,none⟩ (.int .i64 ((rd_T103 l0_4 x46_2).f0))).setCell ⟨gb379,1,none⟩ (.int .i64 ((rd_T103 l0_4 x46_2).f1))).heap[gb368]?=some (.cells #[.int .i64 a0_0,.int .i64 a0_1,.string a0_2,.string a0_3,.slice (some ad378) l0_4.length c0_4] 55 (0,0))):=⟨by (with_reducible repeat (first|refine zkN ?_ _|refine zkD ?_|refine zkA ?_ _));refine blk_far ?_ NB368_379.out _;(with_reducible repeat (first|refine zkN ?_ _|refine zkD ?_|refine zkA ?_ _));refine blk_far ?_ NB368_379.out _;(with_reducible repeat (first|refine zkN ?_ _|refine zkD ?_|refine zkA ?_ _));exact BK368.out⟩
         have n1_:Z0 (((w38.setCell ⟨gb379,0,none⟩ (.int .i64 ((rd_T103 l0_4 x46_2).f0))).setCell ⟨gb379,1,none⟩ (.int .i64 ((rd_T103 l0_4 x46_2).f1))).heap[gb379]?=some (.cells #[.int .i64 ((rd_T103 l0_4 x46_2).f0),.int .i64 ((rd_T103 l0_4 x46_2).f1)] 103 (0,0))):=⟨by (with_reducible repeat (first|refine zkN ?_ _|refine zkD ?_|refine zkA ?_ _));refine blk_put (cs:=#[.int .i64 ((rd_T103 l0_4 x46_2).f0),.int .i64 0]) ?_ 1 _ rfl;(with_reducible repeat (first|refine zkN ?_ _|refine zkD ?_|refine zkA ?_ _));refine blk_put (cs:=#[.int .i64 0,.int .i64 0]) ?_ 0 _ rfl;(with_reducible repeat (first|refine zkN ?_ _|refine zkD ?_|refine zkA ?_ _));exact BK379.out⟩
         have n2_:Z0 (Below w.heap.size w ((w38.setCell ⟨gb379,0,none⟩ (.int .i64 ((rd_T103 l0_4 x46_2).f0))).setCell ⟨gb379,1,none⟩ (.int .i64 ((rd_T103 l0_4 x46_2).f1)))):=⟨by repeat (first|(with_reducible first|exact HB.out|apply zbA|apply zbN|apply zb1|refine zbS ?_ GE368.out|refine zbS ?_ GE379.out)|exact HB.out)⟩
         (try clear BK368)
         (try clear BK379)
         (try clear HB)
         generalize ((w38.setCell ⟨gb379,0,none⟩ (.int .i64 ((rd_T103 l0_4 x46_2).f0))).setCell ⟨gb379,1,none⟩ (.int .i64 ((rd_T103 l0_4 x46_2).f1)))=w41 at n0_ n1_ n2_ ⊢
         have BK368:=n0_
         have BK379:=n1_
         have HB:=n2_
         clear n0_ n1_ n2_
         have n0_:=Z0.mk (zkD BK368.out)
         have n1_:=Z0.mk (zkD BK379.out)
         have n2_:=Z0.mk (zb1 HB.out)
         clear BK368
         clear BK379
         clear HB
         have BK368:=n0_
         have BK379:=n1_
         have HB:=n2_
         clear n0_ n1_ n2_
         refine start_ (n:=10) (S:=fun w'=>w'.cell? ⟨gb379,0,none⟩=some (.int .i64 ((rd_T103 l0_4 x46_2).f0))∧w'.cell? ⟨gb379,1,none⟩=some (.int .i64 ((rd_T103 l0_4 x46_2).f1))) (ds:=[]) #[false,false,false,false,false,false,false,false,false,false] (by kernel_rfl) rfl rfl ⟨(zkC BK379.out 0).trans rfl,(zkC BK379.out 1).trans rfl⟩ (fun hHeld=>?_);refine with_tabW label_Encode.tab13 label_Encode.bits13 (fun HT_ HW_=>?_)
         generalize w41.drew=w42 at BK368 BK379 HB hHeld ⊢
         refine pure_ (i:=0) (N:=some 50) (v:=?_) (a':=?_) #[true,false,false,false,false,false,false,false,false,false] rfl rfl (any_of HT_.out (by kernel_rfl)) (fun _ _ _ h=>h) (Or.inl ⟨by rfl,?_⟩) ?_ ?_
         rotate_left
         ·intro w'
          go_simp
          with_reducible rfl
         rotate_left
         ·simp only [Act.put,List.setIfInBounds_toArray,List.set_cons_zero,List.set_cons_succ,i64_w,i32_w]
          rfl
         refine pure_ (i:=1) (N:=some 51) (v:=?_) (a':=?_) #[true,true,false,false,false,false,false,false,false,false] rfl rfl (any_of HT_.out (by kernel_rfl)) (fun _ _ _ h=>h) (Or.inl ⟨by rfl,?_⟩) ?_ ?_
         rotate_left
         ·intro w'
          go_simp
          with_reducible rfl
         rotate_left
         ·simp only [Act.put,List.setIfInBounds_toArray,List.set_cons_zero,List.set_cons_succ,i64_w,i32_w]
          rfl
         refine pure_ (i:=5) (N:=some 55) (v:=?_) (a':=?_) #[true,true,false,false,false,true,false,false,false,false] rfl rfl (any_of HT_.out (by kernel_rfl)) (fun _ _ _ h=>h) (Or.inl ⟨by rfl,?_⟩) ?_ ?_
         rotate_left
         ·intro w'
          go_simp
          with_reducible rfl
         rotate_left
         ·simp only [Act.put,List.setIfInBounds_toArray,List.set_cons_zero,List.set_cons_succ,i64_w,i32_w]
          rfl
         refine take_ (i:=2) (N:=some 52) (v:=?_) (a':=?_) #[true,true,true,false,false,true,false,false,false,false] rfl rfl (take_ofW HT_.out HW_.out (by kernel_rfl)) (fun _ _ _ h=>h) (Or.inl ⟨by rfl,?_⟩) hHeld ?_ ?_
         rotate_left
         ·rintro w' ⟨s0,s1⟩
          go_simp
          with_reducible rfl
         rotate_left
         ·simp only [Act.put,List.setIfInBounds_toArray,List.set_cons_zero,List.set_cons_succ,i64_w,i32_w]
          rfl
         refine pure_ (i:=3) (N:=some 53) (v:=?_) (a':=?_) #[true,true,true,true,false,true,false,false,false,false] rfl rfl (any_of HT_.out (by kernel_rfl)) (fun _ _ _ h=>h) (Or.inl ⟨by rfl,?_⟩) ?_ ?_
         rotate_left
         ·intro w'
          go_simp
          with_reducible rfl
         rotate_left
         ·simp only [Act.put,List.setIfInBounds_toArray,List.set_cons_zero,List.set_cons_succ,i64_w,i32_w]
          rfl
         refine take_ (i:=6) (N:=some 56) (v:=?_) (a':=?_) #[true,true,true,true,false,true,true,false,false,false] rfl rfl (take_ofW HT_.out HW_.out (by kernel_rfl)) (fun _ _ _ h=>h) (Or.inl ⟨by rfl,?_⟩) hHeld ?_ ?_
         rotate_left
         ·rintro w' ⟨s0,s1⟩
          go_simp
          with_reducible rfl
         rotate_left
         ·simp only [Act.put,List.setIfInBounds_toArray,List.set_cons_zero,List.set_cons_succ,i64_w,i32_w]
          rfl
         refine pure_ (i:=7) (N:=some 57) (v:=?_) (a':=?_) #[true,true,true,true,false,true,true,true,false,false] rfl rfl (any_of HT_.out (by kernel_rfl)) (fun _ _ _ h=>h) (Or.inl ⟨by rfl,?_⟩) ?_ ?_
         rotate_left
         ·intro w'
          go_simp
          with_reducible rfl
         rotate_left
         ·simp only [Act.put,List.setIfInBounds_toArray,List.set_cons_zero,List.set_cons_succ,i64_w,i32_w]
          rfl
         refine one_ (i:=4) (N:=some 54) #[true,true,true,true,true,true,true,true,false,false] rfl rfl (one_of HT_.out (by kernel_rfl)) (by decide) (fun K hK=>?_)
         refine goes_ Try.func26 (by kernel_rfl) rfl #[.string x5_2,.int .u64 (IntKind.u64.wrap ((rd_T103 l0_4 x46_2).f0))] (by rfl) rfl rfl (by (try simp only [List.map_toArray,List.map_cons,List.map_nil]);first|done|rfl|(simp only [List.length_drop,List.length_take];rfl)) ?_
         with_reducible refine (wire_AppendNumber.calls x5_2 (IntKind.u64.wrap ((rd_T103 l0_4 x46_2).f0)) t380 _ A36.out).mono ?_
         rintro e w43 ⟨rfl,hb⟩
         refine ⟨_,rfl,?_⟩
         have n0_:=Z0.mk (blk_below (g:=gb368) (o:=.cells #[.int .i64 a0_0,.int .i64 a0_1,.string a0_2,.string a0_3,.slice (some ad378) l0_4.length c0_4] 55 (0,0)) (by (with_reducible repeat (first|refine zkN ?_ _|refine zkD ?_|refine zkA ?_ _));exact BK368.out) hb)
         have n1_:=Z0.mk (blk_below (g:=gb379) (o:=.cells #[.int .i64 ((rd_T103 l0_4 x46_2).f0),.int .i64 ((rd_T103 l0_4 x46_2).f1)] 103 (0,0)) (by (with_reducible repeat (first|refine zkN ?_ _|refine zkD ?_|refine zkA ?_ _));exact BK379.out) hb)
         have n2_:=Z0.mk (below_step (by repeat (first|(with_reducible first|exact HB.out|apply zbA|apply zbN|apply zb1|refine zbS ?_ GE368.out|refine zbS ?_ GE379.out)|exact HB.out)) hb)
         clear BK368
         clear BK379
         clear HB
         have BK368:=n0_
         have BK379:=n1_
         have HB:=n2_
         clear n0_ n1_ n2_
         (try clear hb)
         (try clear hb2)
         (try clear hk)
         (try clear hi)
         refine hK.out _ _ ⟨(zkC BK379.out 0).trans rfl,(zkC BK379.out 1).trans rfl⟩ (fun hHeld=>?_)
         clear hK K
         refine norm_ (a':=?_) ?_ ?_
         rotate_left
         ·show Act.put _ (some 54) _=_
          simp only [Act.put,List.setIfInBounds_toArray,List.set_cons_zero,List.set_cons_succ,i64_w,i32_w]
          rfl
         refine one_ (i:=8) (N:=some 58) #[true,true,true,true,true,true,true,true,true,false] rfl rfl (one_of HT_.out (by kernel_rfl)) (by decide) (fun K hK=>?_)
         refine goes_ Try.func26 (by kernel_rfl) rfl #[.string t380,.int .u64 (IntKind.u64.wrap ((rd_T103 l0_4 x46_2).f1))] (by rfl) rfl rfl (by (try simp only [List.map_toArray,List.map_cons,List.map_nil]);first|done|rfl|(simp only [List.length_drop,List.length_take];rfl)) ?_
         with_reducible refine (wire_AppendNumber.calls t380 (IntKind.u64.wrap ((rd_T103 l0_4 x46_2).f1)) t381 _ A37.out).mono ?_
         rintro e w44 ⟨rfl,hb⟩
         refine ⟨_,rfl,?_⟩
         have n0_:=Z0.mk (blk_below (g:=gb368) (o:=.cells #[.int .i64 a0_0,.int .i64 a0_1,.string a0_2,.string a0_3,.slice (some ad378) l0_4.length c0_4] 55 (0,0)) (by (with_reducible repeat (first|refine zkN ?_ _|refine zkD ?_|refine zkA ?_ _));exact BK368.out) hb)
         have n1_:=Z0.mk (blk_below (g:=gb379) (o:=.cells #[.int .i64 ((rd_T103 l0_4 x46_2).f0),.int .i64 ((rd_T103 l0_4 x46_2).f1)] 103 (0,0)) (by (with_reducible repeat (first|refine zkN ?_ _|refine zkD ?_|refine zkA ?_ _));exact BK379.out) hb)
         have n2_:=Z0.mk (below_step (by repeat (first|(with_reducible first|exact HB.out|apply zbA|apply zbN|apply zb1|refine zbS ?_ GE368.out|refine zbS ?_ GE379.out)|exact HB.out)) hb)
         clear BK368
         clear BK379
         clear HB
         have BK368:=n0_
         have BK379:=n1_
         have HB:=n2_
         clear n0_ n1_ n2_
         (try clear hb)
         (try clear hb2)
         (try clear hk)
         (try clear hi)
         refine hK.out _ _ ⟨(zkC BK379.out 0).trans rfl,(zkC BK379.out 1).trans rfl⟩ (fun hHeld=>?_)
         clear hK K
         refine norm_ (a':=?_) ?_ ?_
         rotate_left
         ·show Act.put _ (some 58) _=_
          simp only [Act.put,List.setIfInBounds_toArray,List.set_cons_zero,List.set_cons_succ,i64_w,i32_w]
          rfl
         refine pure_ (i:=9) (N:=some 5) (v:=?_) (a':=?_) #[true,true,true,true,true,true,true,true,true,true] rfl rfl (any_of HT_.out (by kernel_rfl)) (fun _ _ _ h=>h) (Or.inl ⟨by rfl,?_⟩) ?_ ?_
         rotate_left
         ·intro w'
          go_simp
          with_reducible rfl
         rotate_left
         ·simp only [Act.put,List.setIfInBounds_toArray,List.set_cons_zero,List.set_cons_succ,i64_w,i32_w]
          rfl
         refine done_ (done_of HT_.out (by kernel_rfl)) ?_
         try go_wp2
         go_roundg k2
         case measure=>have:=HJ2.out;have:=HK2.out;omega
         case rel=>exact ⟨(t381),(wrap64 (x46_2 + 1)),(by first|rfl|(simp;done)|(simp [*];done)),(by first|rfl|(simp;done)|(simp [*];done)),H',⟨by have:=HJ2.out;have:=HK2.out;omega⟩,⟨by (with_reducible repeat (first|refine zkN ?_ _|refine zkD ?_|refine zkA ?_ _));exact BK368.out⟩,⟨by repeat (first|(with_reducible first|exact HB.out|apply zbA|apply zbN|apply zb1|refine zbS ?_ GE368.out|refine zbS ?_ GE379.out)|exact HB.out)⟩⟩
        rw [if_neg c35] at H
        exact absurd H (by simp)
       rw [if_neg c34] at H
       exact absurd H (by simp)
      rw [if_neg c33] at H
      have c33b0 : decide (x46_2 < (l0_4.length:Int))=false:=decide_eq_false c33
      clear c33
      replace H:=Option.bind_eq_some_iff.mp H
      obtain ⟨t382,A450,H⟩:=H
      replace H:(some t382)=some r:=H
      have A45:=Z0.mk A450
      clear A450
      obtain rfl:=Option.some.inj H
      go_wp2_with (first|((with_reducible refine gate_callee (f:=101) rfl ?_);refine goesL_ (some 61) rfl rfl Try.func101 (by kernel_rfl) rfl #[.string x5_2] rfl (by (try simp only [List.map_toArray,List.map_cons,List.map_nil]);first|done|rfl|(simp only [List.length_drop,List.length_take];rfl)) ?_;(with_reducible refine (label_fill.calls x5_2 t382 _ A45.out).mono ?_);rintro e w46 ⟨rfl,hb⟩;refine ⟨_,rfl,?_⟩;have n0_:=Z0.mk (blk_below (g:=gb368) (o:=.cells #[.int .i64 a0_0,.int .i64 a0_1,.string a0_2,.string a0_3,.slice A0_4 l0_4.length c0_4] 55 (0,0)) (by (with_reducible repeat (first|refine zkN ?_ _|refine zkD ?_|refine zkA ?_ _));exact BK368.out) hb);have n1_:=Z0.mk (below_step (by repeat (first|(with_reducible first|exact HB.out|apply zbA|apply zbN|apply zb1|refine zbS ?_ GE368.out)|exact HB.out)) hb);clear BK368;clear HB;have BK368:=n0_;have HB:=n1_;clear n0_ n1_;(try clear hb);(try clear hb2);(try clear hk);(try clear hi)))
      go_ret
      exact ⟨by first|rfl|(simp [errW_none,errW_some] <;> rfl)|(simp [*,errW_none,errW_some] <;> rfl),by repeat (first|(with_reducible first|exact HB.out|apply zbA|apply zbN|apply zb1|refine zbS ?_ GE368.out)|exact HB.out)⟩
   replace c14:=Bool.eq_false_iff.mpr c14
   subst c14
   have H1:(some (⟨#[]⟩:ByteArray))=some r:=by rw [if_neg (show ¬ (false=true) by decide)] at H;exact H
   clear H
   have H:=H1
   clear H1
   obtain rfl:=Option.some.inj H
   have hcz47_0 : wc.cell? ⟨gb368,0,none⟩=some (.int .i64 a0_0):=(zkC BK368.out 0).trans rfl
   have hcz47_1 : wc.cell? ⟨gb368,1,none⟩=some (.int .i64 a0_1):=(zkC BK368.out 1).trans rfl
   have hcz47_2 : wc.cell? ⟨gb368,2,none⟩=some (.string a0_2):=(zkC BK368.out 2).trans rfl
   have hcz47_3 : wc.cell? ⟨gb368,3,none⟩=some (.string a0_3):=(zkC BK368.out 3).trans rfl
   have hcz47_4 : wc.cell? ⟨gb368,4,none⟩=some (.slice A0_4 l0_4.length c0_4):=(zkC BK368.out 4).trans rfl
   have hfz47_0:=zkF BK368.out 0
   have hfz47_1:=zkF BK368.out 1
   have hfz47_2:=zkF BK368.out 2
   have hfz47_3:=zkF BK368.out 3
   have hfz47_4:=zkF BK368.out 4
   go_wp2_with (first|((with_reducible refine gate_callee (f:=85) rfl ?_);refine goesL_ (some 18) rfl rfl Try.func85 (by kernel_rfl) rfl #[.agg #[.int .i64 a0_0,.int .i64 a0_1,.string a0_2,.string a0_3,.slice A0_4 l0_4.length c0_4],.int .i64 a1] rfl (by (try simp only [List.map_toArray,List.map_cons,List.map_nil]);first|done|rfl|(simp only [List.length_drop,List.length_take];rfl)) ?_;(with_reducible refine (label_Valid.calls a0_0 a0_1 a0_2 a0_3 _ _ l0_4 a1 false _ ?side1 ?side2 A13.out).mono ?_);(case side1=>repeat (first|exact (Kd.C_below HR0_4.out HB.out)|(with_reducible refine Kd.C_alloc ?_ _)|(with_reducible refine Kd.C_drewN ?_ _)|(with_reducible refine Kd.C_drew ?_)));(case side2=>exact HC0_4.out);rintro e w48 ⟨rfl,hb⟩;refine ⟨_,rfl,?_⟩;have n0_:=Z0.mk (blk_below (g:=gb368) (o:=.cells #[.int .i64 a0_0,.int .i64 a0_1,.string a0_2,.string a0_3,.slice A0_4 l0_4.length c0_4] 55 (0,0)) (by (with_reducible repeat (first|refine zkN ?_ _|refine zkD ?_|refine zkA ?_ _));exact BK368.out) hb);have n1_:=Z0.mk (below_step (by repeat (first|(with_reducible first|exact HB.out|apply zbA|apply zbN|apply zb1|refine zbS ?_ GE368.out)|exact HB.out)) hb);clear BK368;clear HB;have BK368:=n0_;have HB:=n1_;clear n0_ n1_;(try clear hb);(try clear hb2);(try clear hk);(try clear hi)))
   go_ret
   exact ⟨by first|rfl|(simp [errW_none,errW_some] <;> rfl)|(simp [*,errW_none,errW_some] <;> rfl),by repeat (first|(with_reducible first|exact HB.out|apply zbA|apply zbN|apply zb1|refine zbS ?_ GE368.out)|exact HB.out)⟩
end Go.Proofs.Ytegefemkmdlmaaa.P
end
section
namespace Go.Proofs.Ytegefemkmdlmaaa.P
open Go.RowKit Go.Proofs.YtegefemkmdlmaaaW.PrintWords Go.Proofs.YtegefemkmdlmaaaW.PrintLast Go.Proofs.YtegefemkmdlmaaaW.PrintMore
attribute [local go_sem] max2_int min2_int max_two min_two max_three min_three max_four min_four
set_option linter.unusedVariables false
set_option linter.unusedSimpArgs false
def label_Slots.f (a0:Int):Option (Int):=(label_TableTracks.f a0).bind fun t383=>(some (mx 0 (wrap64 (t383 - 1))))
set_option maxHeartbeats 8000000 in
set_option maxRecDepth 100000 in
theorem label_Slots.calls (a0:Int) (r:Int) (w:World) (h : label_Slots.f a0=some r) :
  Calls Try.prog 89 #[.int .i64 a0] w fun e w'=>e=.returned (.int .i64 r)∧Below w.heap.size w w':=by
 have HB:=Z0.mk (Below.refl w.heap.size w)
 have H:((label_TableTracks.f a0).bind fun t383=>(some (mx 0 (wrap64 (t383 - 1)))))=some r:=h
 clear h
 replace H:=Option.bind_eq_some_iff.mp H
 obtain ⟨t383,A20,H⟩:=H
 replace H:(some (mx 0 (wrap64 (t383 - 1))))=some r:=H
 have A2:=Z0.mk A20
 clear A20
 obtain ⟨ji3,hji3⟩:∃ j_:Int,(mx 0 (wrap64 (t383 - 1)))=j_:=⟨_,rfl⟩
 replace H:(some ji3)=some r:=by first|(rw [hji3] at H;exact H)|(simp only [hji3] at H ⊢;exact H)
 (try rw [hji3] at A2)
 (try (have hji3l : 0≤ji3:=by (rw [← hji3];unfold mx;(repeat' split) <;> omega)))
 (try (have hji3m : 0≤ji3:=by omega))
 have hji3_:(if 0 < (wrap64 (t383 - 1)) then (wrap64 (t383 - 1)) else 0)=ji3:=hji3
 obtain rfl:=Option.some.inj H
 go_enter Try.func89,Try.ntmps89
 go_wp2_with (first|((with_reducible refine gate_callee (f:=61) rfl ?_);refine goesL_ (some 4) rfl rfl Try.func61 (by kernel_rfl) rfl #[.int .i64 a0] rfl (by (try simp only [List.map_toArray,List.map_cons,List.map_nil]);first|done|rfl|(simp only [List.length_drop,List.length_take];rfl)) ?_;(with_reducible refine (label_TableTracks.calls a0 t383 _ A2.out).mono ?_);rintro e w' ⟨rfl,⟨nd,rfl⟩⟩;refine ⟨_,rfl,?_⟩))
 go_ret
 exact ⟨by first|rfl|(simp [errW_none,errW_some] <;> rfl)|(simp only [← hji3];first|rfl|(simp [errW_none,errW_some] <;> rfl))|(simp [*,errW_none,errW_some] <;> rfl),by repeat (first|(with_reducible first|exact HB.out|apply zbA|apply zbN|apply zb1)|exact HB.out)⟩
end Go.Proofs.Ytegefemkmdlmaaa.P
end
section
namespace Go.Proofs.Ytegefemkmdlmaaa.P
open Go.RowKit Go.Proofs.YtegefemkmdlmaaaW.PrintWords Go.Proofs.YtegefemkmdlmaaaW.PrintLast Go.Proofs.YtegefemkmdlmaaaW.PrintMore
attribute [local go_sem] max2_int min2_int max_two min_two max_three min_three max_four min_four
set_option linter.unusedVariables false
set_option linter.unusedSimpArgs false
def dasdlaw07_awake.f (k:Nat) :Option (Bool):=(label_Encode.f k 5 2 (⟨#[65]⟩:ByteArray) (⟨#[]⟩:ByteArray) (([(⟨4,2⟩:S103)]:List (S103))) 16).bind fun t387=>((label_TableTracks.f 16).bind fun t388=>(if t388=4 then ((label_Slots.f 16).bind fun t389=>(if t389=3 then (if (t387.size:Int)=1024 then (if 0≤9 then (if 9≤(t387.size:Int) then (some ((t387.extract 0 9).toList == ([5,2,1,65,0,1,4,2,0]:List UInt8))) else (none)) else (none)) else (some false)) else (some false))) else (some false)))
theorem dasdlaw07_awake.mono:∀ k,LeO (dasdlaw07_awake.f k ) (dasdlaw07_awake.f (k + 1) ):=by
 intro  k
 unfold dasdlaw07_awake.f
 repeat' first
   | (with_reducible exact label_Encode.mono _ _ _ _ _ _ _)
   | (with_reducible exact LeO.refl _)
   | (with_reducible exact LeO.none _)
   | (with_reducible refine LeO.ite ?_ ?_)
   | (with_reducible refine LeO.bind ?_ (fun _=>?_))
   | exact label_Encode.mono _ _ _ _ _ _ _
   | exact LeO.none _
   | refine LeO.ite ?_ ?_
   | refine LeO.bind ?_ (fun _=>?_)
set_option maxHeartbeats 8000000 in
set_option maxRecDepth 100000 in
theorem dasdlaw07_awake.calls (k:Nat)  (r:Bool) (w:World) (h : dasdlaw07_awake.f k =some r) :
  Calls Try.prog 43 #[] w fun e w'=>e=.returned (.bool r)∧Below w.heap.size w w':=by
 have hu103:=Try.underlying103
 have hu55:=Try.underlying55
 have HB:=Z0.mk (Below.refl w.heap.size w)
 have H:((label_Encode.f k 5 2 (⟨#[65]⟩:ByteArray) (⟨#[]⟩:ByteArray) (([(⟨4,2⟩:S103)]:List (S103))) 16).bind fun t387=>((label_TableTracks.f 16).bind fun t388=>(if t388=4 then ((label_Slots.f 16).bind fun t389=>(if t389=3 then (if (t387.size:Int)=1024 then (if 0≤9 then (if 9≤(t387.size:Int) then (some ((t387.extract 0 9).toList == ([5,2,1,65,0,1,4,2,0]:List UInt8))) else (none)) else (none)) else (some false)) else (some false))) else (some false))))=some r:=h
 clear h
 obtain ⟨y384,hy384⟩:∃ y_:List (S103),y_=(([(⟨4,2⟩:S103)]:List (S103))):=⟨_,rfl⟩
 replace H:((label_Encode.f k 5 2 (⟨#[65]⟩:ByteArray) (⟨#[]⟩:ByteArray) y384 16).bind fun t387=>((label_TableTracks.f 16).bind fun t388=>(if t388=4 then ((label_Slots.f 16).bind fun t389=>(if t389=3 then (if (t387.size:Int)=1024 then (if 0≤9 then (if 9≤(t387.size:Int) then (some ((t387.extract 0 9).toList == ([5,2,1,65,0,1,4,2,0]:List UInt8))) else (none)) else (none)) else (some false)) else (some false))) else (some false))))=some r:=by first|(rw [hy384];with_reducible exact H)|(have H2_:=(Option.bind_some _ _).symm.trans H;rw [hy384];with_reducible exact H2_)|(have H2_:=(Option.bind_some _ _).symm.trans H;with_reducible exact H2_)|with_reducible exact H|(rw [hy384];exact H)|exact H
 have Ny384:=Z0.mk hy384
 clear hy384
 replace H:=Option.bind_eq_some_iff.mp H
 obtain ⟨t387,A10,H⟩:=H
 replace H:((label_TableTracks.f 16).bind fun t388=>(if t388=4 then ((label_Slots.f 16).bind fun t389=>(if t389=3 then (if (t387.size:Int)=1024 then (if 0≤9 then (if 9≤(t387.size:Int) then (some ((t387.extract 0 9).toList == ([5,2,1,65,0,1,4,2,0]:List UInt8))) else (none)) else (none)) else (some false)) else (some false))) else (some false)))=some r:=H
 have A1:=Z0.mk A10
 clear A10
 replace H:=Option.bind_eq_some_iff.mp H
 obtain ⟨t388,A20,H⟩:=H
 replace H:(if t388=4 then ((label_Slots.f 16).bind fun t389=>(if t389=3 then (if (t387.size:Int)=1024 then (if 0≤9 then (if 9≤(t387.size:Int) then (some ((t387.extract 0 9).toList == ([5,2,1,65,0,1,4,2,0]:List UInt8))) else (none)) else (none)) else (some false)) else (some false))) else (some false))=some r:=H
 have A2:=Z0.mk A20
 clear A20
 by_cases c3 : t388=4
 ·rw [if_pos c3] at H
  have c3b0:(t388 == 4)=true:=beq_iff_eq.mpr c3
  have c3b1:(t388 != 4)=false:=bne_eq_false_iff_eq.mpr c3
  clear c3
  replace H:=Option.bind_eq_some_iff.mp H
  obtain ⟨t389,A40,H⟩:=H
  replace H:(if t389=3 then (if (t387.size:Int)=1024 then (if 0≤9 then (if 9≤(t387.size:Int) then (some ((t387.extract 0 9).toList == ([5,2,1,65,0,1,4,2,0]:List UInt8))) else (none)) else (none)) else (some false)) else (some false))=some r:=H
  have A4:=Z0.mk A40
  clear A40
  by_cases c5 : t389=3
  ·rw [if_pos c5] at H
   have c5b0:(t389 == 3)=true:=beq_iff_eq.mpr c5
   have c5b1:(t389 != 3)=false:=bne_eq_false_iff_eq.mpr c5
   clear c5
   by_cases c6:(t387.size:Int)=1024
   ·rw [if_pos c6] at H
    have c6b0:((t387.size:Int) == 1024)=true:=beq_iff_eq.mpr c6
    have c6b1:((t387.size:Int) != 1024)=false:=bne_eq_false_iff_eq.mpr c6
    clear c6
    by_cases c7 : 0≤9
    ·rw [if_pos c7] at H
     have c7b0:=eq_true c7
     have c7b1 : decide (0≤9)=true:=decide_eq_true c7
     clear c7
     by_cases c8 : 9≤(t387.size:Int)
     ·rw [if_pos c8] at H
      have c8b0:=eq_true c8
      have c8b1 : decide (9≤(t387.size:Int))=true:=decide_eq_true c8
      clear c8
      obtain rfl:=Option.some.inj H
      go_enter Try.func43,Try.ntmps43
      go_wp2_with (first|((with_reducible refine gate_dst (N:=3) rfl ?_);(try (refine gate_guard (by rfl) ?_;dsimp only));refine Kd.R_lit k103 _ 103 ?hg (N:=3) ?hd (xs:=([(⟨4,2⟩:S103)]:List (S103))) (inner:=[.int .i64 4,.int .i64 2]) (ok:=fun _=>True) (okp:=fun _=>True) ?hr ?hp (fun _ hk=>hk) trivial (Below.refl _ _) (Nat.le_refl _) (by simp) ?_;(case hd=>rfl);(case hg=>rfl);(case hr=>first|(go_simp;done)|(go_simp;rfl));(case hp=>exact (Reps.c2 (show Kd.M k103 _ _ _ (⟨4,2⟩:S103) [.int .i64 4,.int .i64 2] from (k103_mkM _ _ _ (⟨4,2⟩:S103) )) (Reps.none _ _)));intro v385 w9 ho10 hb hg_ hnew_;clear hg_ hnew_;(first|rw [← Ny384.out] at ho10|(simp only [Int.reduceToNat] at ho10;rw [← Ny384.out] at ho10));have n0_:=Z0.mk (Kd.R_lower ho10 (below_size (by repeat (first|(with_reducible first|exact HB.out|apply zbA|apply zbN|apply zb1)|exact HB.out))));have n1_:=Z0.mk (below_step (by repeat (first|(with_reducible first|exact HB.out|apply zbA|apply zbN|apply zb1)|exact HB.out)) hb);clear HB;have HO386:=n0_;have HB:=n1_;clear n0_ n1_;clear hb ho10;obtain ⟨Ao11,co11,eo11⟩:=Kd.R_slice HO386.out;subst eo11)|((with_reducible refine gate_callee (f:=59) rfl ?_);refine goesL_ (some 5) rfl rfl Try.func59 (by kernel_rfl) rfl #[.agg #[.int .i64 5,.int .i64 2,.string (⟨#[65]⟩:ByteArray),.string (⟨#[]⟩:ByteArray),.slice Ao11 y384.length co11],.int .i64 16] rfl (by (try simp only [List.map_toArray,List.map_cons,List.map_nil]);first|done|rfl|(simp only [List.length_drop,List.length_take];rfl)) ?_;(with_reducible refine (label_Encode.calls k 5 2 (⟨#[65]⟩:ByteArray) (⟨#[]⟩:ByteArray) _ _ y384 16 t387 _ ?side1 ?side2 A1.out).mono ?_);(case side1=>repeat (first|exact (Kd.R_reads' HO386.out).2.2|(with_reducible refine Kd.C_alloc ?_ _)|(with_reducible refine Kd.C_drewN ?_ _)|(with_reducible refine Kd.C_drew ?_)));(case side2=>exact (Kd.R_reads' HO386.out).2.1);rintro e w12 ⟨rfl,hb⟩;refine ⟨_,rfl,?_⟩;have n0_:=Z0.mk (Kd.R_below (by (with_reducible repeat (first|apply Kd.R_alloc|apply Kd.R_drewN|apply Kd.R_drew));exact HO386.out) hb);have n1_:=Z0.mk (below_step (by repeat (first|(with_reducible first|exact HB.out|apply zbA|apply zbN|apply zb1)|exact HB.out)) hb);clear HO386;clear HB;have HO386:=n0_;have HB:=n1_;clear n0_ n1_;(try clear hb);(try clear hb2);(try clear hk);(try clear hi))|((with_reducible refine gate_callee (f:=61) rfl ?_);refine goesL_ (some 6) rfl rfl Try.func61 (by kernel_rfl) rfl #[.int .i64 16] rfl (by (try simp only [List.map_toArray,List.map_cons,List.map_nil]);first|done|rfl|(simp only [List.length_drop,List.length_take];rfl)) ?_;(with_reducible refine (label_TableTracks.calls 16 t388 _ A2.out).mono ?_);rintro e w' ⟨rfl,⟨nd,rfl⟩⟩;refine ⟨_,rfl,?_⟩)|(go_at_call 89;(with_reducible refine (label_Slots.calls 16 t389 _ A4.out).mono ?_);rintro e w13 ⟨rfl,hb⟩;have n0_:=Z0.mk (Kd.R_below (by (with_reducible repeat (first|apply Kd.R_alloc|apply Kd.R_drewN|apply Kd.R_drew));exact HO386.out) hb);have n1_:=Z0.mk (below_step (by repeat (first|(with_reducible first|exact HB.out|apply zbA|apply zbN|apply zb1)|exact HB.out)) hb);clear HO386;clear HB;have HO386:=n0_;have HB:=n1_;clear n0_ n1_;(try clear hb);(try clear hb2);(try clear hk);(try clear hi)))
      go_ret
      exact ⟨by first|rfl|(simp [errW_none,errW_some] <;> rfl)|(simp [*,errW_none,errW_some] <;> rfl),by repeat (first|(with_reducible first|exact HB.out|apply zbA|apply zbN|apply zb1)|exact HB.out)⟩
     rw [if_neg c8] at H
     exact absurd H (by simp)
    rw [if_neg c7] at H
    exact absurd H (by simp)
   rw [if_neg c6] at H
   have c6b0:((t387.size:Int) == 1024)=false:=beq_eq_false_iff_ne.mpr c6
   have c6b1:((t387.size:Int) != 1024)=true:=bne_iff_ne.mpr c6
   obtain rfl:=Option.some.inj H
   go_enter Try.func43,Try.ntmps43
   go_wp2_with (first|((with_reducible refine gate_dst (N:=3) rfl ?_);(try (refine gate_guard (by rfl) ?_;dsimp only));refine Kd.R_lit k103 _ 103 ?hg (N:=3) ?hd (xs:=([(⟨4,2⟩:S103)]:List (S103))) (inner:=[.int .i64 4,.int .i64 2]) (ok:=fun _=>True) (okp:=fun _=>True) ?hr ?hp (fun _ hk=>hk) trivial (Below.refl _ _) (Nat.le_refl _) (by simp) ?_;(case hd=>rfl);(case hg=>rfl);(case hr=>first|(go_simp;done)|(go_simp;rfl));(case hp=>exact (Reps.c2 (show Kd.M k103 _ _ _ (⟨4,2⟩:S103) [.int .i64 4,.int .i64 2] from (k103_mkM _ _ _ (⟨4,2⟩:S103) )) (Reps.none _ _)));intro v385 w14 ho15 hb hg_ hnew_;clear hg_ hnew_;(first|rw [← Ny384.out] at ho15|(simp only [Int.reduceToNat] at ho15;rw [← Ny384.out] at ho15));have n0_:=Z0.mk (Kd.R_lower ho15 (below_size (by repeat (first|(with_reducible first|exact HB.out|apply zbA|apply zbN|apply zb1)|exact HB.out))));have n1_:=Z0.mk (below_step (by repeat (first|(with_reducible first|exact HB.out|apply zbA|apply zbN|apply zb1)|exact HB.out)) hb);clear HB;have HO386:=n0_;have HB:=n1_;clear n0_ n1_;clear hb ho15;obtain ⟨Ao16,co16,eo16⟩:=Kd.R_slice HO386.out;subst eo16)|((with_reducible refine gate_callee (f:=59) rfl ?_);refine goesL_ (some 5) rfl rfl Try.func59 (by kernel_rfl) rfl #[.agg #[.int .i64 5,.int .i64 2,.string (⟨#[65]⟩:ByteArray),.string (⟨#[]⟩:ByteArray),.slice Ao16 y384.length co16],.int .i64 16] rfl (by (try simp only [List.map_toArray,List.map_cons,List.map_nil]);first|done|rfl|(simp only [List.length_drop,List.length_take];rfl)) ?_;(with_reducible refine (label_Encode.calls k 5 2 (⟨#[65]⟩:ByteArray) (⟨#[]⟩:ByteArray) _ _ y384 16 t387 _ ?side1 ?side2 A1.out).mono ?_);(case side1=>repeat (first|exact (Kd.R_reads' HO386.out).2.2|(with_reducible refine Kd.C_alloc ?_ _)|(with_reducible refine Kd.C_drewN ?_ _)|(with_reducible refine Kd.C_drew ?_)));(case side2=>exact (Kd.R_reads' HO386.out).2.1);rintro e w17 ⟨rfl,hb⟩;refine ⟨_,rfl,?_⟩;have n0_:=Z0.mk (Kd.R_below (by (with_reducible repeat (first|apply Kd.R_alloc|apply Kd.R_drewN|apply Kd.R_drew));exact HO386.out) hb);have n1_:=Z0.mk (below_step (by repeat (first|(with_reducible first|exact HB.out|apply zbA|apply zbN|apply zb1)|exact HB.out)) hb);clear HO386;clear HB;have HO386:=n0_;have HB:=n1_;clear n0_ n1_;(try clear hb);(try clear hb2);(try clear hk);(try clear hi))|((with_reducible refine gate_callee (f:=61) rfl ?_);refine goesL_ (some 6) rfl rfl Try.func61 (by kernel_rfl) rfl #[.int .i64 16] rfl (by (try simp only [List.map_toArray,List.map_cons,List.map_nil]);first|done|rfl|(simp only [List.length_drop,List.length_take];rfl)) ?_;(with_reducible refine (label_TableTracks.calls 16 t388 _ A2.out).mono ?_);rintro e w' ⟨rfl,⟨nd,rfl⟩⟩;refine ⟨_,rfl,?_⟩)|(go_at_call 89;(with_reducible refine (label_Slots.calls 16 t389 _ A4.out).mono ?_);rintro e w18 ⟨rfl,hb⟩;have n0_:=Z0.mk (Kd.R_below (by (with_reducible repeat (first|apply Kd.R_alloc|apply Kd.R_drewN|apply Kd.R_drew));exact HO386.out) hb);have n1_:=Z0.mk (below_step (by repeat (first|(with_reducible first|exact HB.out|apply zbA|apply zbN|apply zb1)|exact HB.out)) hb);clear HO386;clear HB;have HO386:=n0_;have HB:=n1_;clear n0_ n1_;(try clear hb);(try clear hb2);(try clear hk);(try clear hi)))
   go_ret
   exact ⟨by first|rfl|(simp [errW_none,errW_some] <;> rfl)|(simp [*,errW_none,errW_some] <;> rfl),by repeat (first|(with_reducible first|exact HB.out|apply zbA|apply zbN|apply zb1)|exact HB.out)⟩
  rw [if_neg c5] at H
  have c5b0:(t389 == 3)=false:=beq_eq_false_iff_ne.mpr c5
  have c5b1:(t389 != 3)=true:=bne_iff_ne.mpr c5
  obtain rfl:=Option.some.inj H
  go_enter Try.func43,Try.ntmps43
  go_wp2_with (first|((with_reducible refine gate_dst (N:=3) rfl ?_);(try (refine gate_guard (by rfl) ?_;dsimp only));refine Kd.R_lit k103 _ 103 ?hg (N:=3) ?hd (xs:=([(⟨4,2⟩:S103)]:List (S103))) (inner:=[.int .i64 4,.int .i64 2]) (ok:=fun _=>True) (okp:=fun _=>True) ?hr ?hp (fun _ hk=>hk) trivial (Below.refl _ _) (Nat.le_refl _) (by simp) ?_;(case hd=>rfl);(case hg=>rfl);(case hr=>first|(go_simp;done)|(go_simp;rfl));(case hp=>exact (Reps.c2 (show Kd.M k103 _ _ _ (⟨4,2⟩:S103) [.int .i64 4,.int .i64 2] from (k103_mkM _ _ _ (⟨4,2⟩:S103) )) (Reps.none _ _)));intro v385 w19 ho20 hb hg_ hnew_;clear hg_ hnew_;(first|rw [← Ny384.out] at ho20|(simp only [Int.reduceToNat] at ho20;rw [← Ny384.out] at ho20));have n0_:=Z0.mk (Kd.R_lower ho20 (below_size (by repeat (first|(with_reducible first|exact HB.out|apply zbA|apply zbN|apply zb1)|exact HB.out))));have n1_:=Z0.mk (below_step (by repeat (first|(with_reducible first|exact HB.out|apply zbA|apply zbN|apply zb1)|exact HB.out)) hb);clear HB;have HO386:=n0_;have HB:=n1_;clear n0_ n1_;clear hb ho20;obtain ⟨Ao21,co21,eo21⟩:=Kd.R_slice HO386.out;subst eo21)|((with_reducible refine gate_callee (f:=59) rfl ?_);refine goesL_ (some 5) rfl rfl Try.func59 (by kernel_rfl) rfl #[.agg #[.int .i64 5,.int .i64 2,.string (⟨#[65]⟩:ByteArray),.string (⟨#[]⟩:ByteArray),.slice Ao21 y384.length co21],.int .i64 16] rfl (by (try simp only [List.map_toArray,List.map_cons,List.map_nil]);first|done|rfl|(simp only [List.length_drop,List.length_take];rfl)) ?_;(with_reducible refine (label_Encode.calls k 5 2 (⟨#[65]⟩:ByteArray) (⟨#[]⟩:ByteArray) _ _ y384 16 t387 _ ?side1 ?side2 A1.out).mono ?_);(case side1=>repeat (first|exact (Kd.R_reads' HO386.out).2.2|(with_reducible refine Kd.C_alloc ?_ _)|(with_reducible refine Kd.C_drewN ?_ _)|(with_reducible refine Kd.C_drew ?_)));(case side2=>exact (Kd.R_reads' HO386.out).2.1);rintro e w22 ⟨rfl,hb⟩;refine ⟨_,rfl,?_⟩;have n0_:=Z0.mk (Kd.R_below (by (with_reducible repeat (first|apply Kd.R_alloc|apply Kd.R_drewN|apply Kd.R_drew));exact HO386.out) hb);have n1_:=Z0.mk (below_step (by repeat (first|(with_reducible first|exact HB.out|apply zbA|apply zbN|apply zb1)|exact HB.out)) hb);clear HO386;clear HB;have HO386:=n0_;have HB:=n1_;clear n0_ n1_;(try clear hb);(try clear hb2);(try clear hk);(try clear hi))|((with_reducible refine gate_callee (f:=61) rfl ?_);refine goesL_ (some 6) rfl rfl Try.func61 (by kernel_rfl) rfl #[.int .i64 16] rfl (by (try simp only [List.map_toArray,List.map_cons,List.map_nil]);first|done|rfl|(simp only [List.length_drop,List.length_take];rfl)) ?_;(with_reducible refine (label_TableTracks.calls 16 t388 _ A2.out).mono ?_);rintro e w' ⟨rfl,⟨nd,rfl⟩⟩;refine ⟨_,rfl,?_⟩)|(go_at_call 89;(with_reducible refine (label_Slots.calls 16 t389 _ A4.out).mono ?_);rintro e w23 ⟨rfl,hb⟩;have n0_:=Z0.mk (Kd.R_below (by (with_reducible repeat (first|apply Kd.R_alloc|apply Kd.R_drewN|apply Kd.R_drew));exact HO386.out) hb);have n1_:=Z0.mk (below_step (by repeat (first|(with_reducible first|exact HB.out|apply zbA|apply zbN|apply zb1)|exact HB.out)) hb);clear HO386;clear HB;have HO386:=n0_;have HB:=n1_;clear n0_ n1_;(try clear hb);(try clear hb2);(try clear hk);(try clear hi)))
  go_ret
  exact ⟨by first|rfl|(simp [errW_none,errW_some] <;> rfl)|(simp [*,errW_none,errW_some] <;> rfl),by repeat (first|(with_reducible first|exact HB.out|apply zbA|apply zbN|apply zb1)|exact HB.out)⟩
 rw [if_neg c3] at H
 have c3b0:(t388 == 4)=false:=beq_eq_false_iff_ne.mpr c3
 have c3b1:(t388 != 4)=true:=bne_iff_ne.mpr c3
 obtain rfl:=Option.some.inj H
 go_enter Try.func43,Try.ntmps43
 go_wp2_with (first|((with_reducible refine gate_dst (N:=3) rfl ?_);(try (refine gate_guard (by rfl) ?_;dsimp only));refine Kd.R_lit k103 _ 103 ?hg (N:=3) ?hd (xs:=([(⟨4,2⟩:S103)]:List (S103))) (inner:=[.int .i64 4,.int .i64 2]) (ok:=fun _=>True) (okp:=fun _=>True) ?hr ?hp (fun _ hk=>hk) trivial (Below.refl _ _) (Nat.le_refl _) (by simp) ?_;(case hd=>rfl);(case hg=>rfl);(case hr=>first|(go_simp;done)|(go_simp;rfl));(case hp=>exact (Reps.c2 (show Kd.M k103 _ _ _ (⟨4,2⟩:S103) [.int .i64 4,.int .i64 2] from (k103_mkM _ _ _ (⟨4,2⟩:S103) )) (Reps.none _ _)));intro v385 w24 ho25 hb hg_ hnew_;clear hg_ hnew_;(first|rw [← Ny384.out] at ho25|(simp only [Int.reduceToNat] at ho25;rw [← Ny384.out] at ho25));have n0_:=Z0.mk (Kd.R_lower ho25 (below_size (by repeat (first|(with_reducible first|exact HB.out|apply zbA|apply zbN|apply zb1)|exact HB.out))));have n1_:=Z0.mk (below_step (by repeat (first|(with_reducible first|exact HB.out|apply zbA|apply zbN|apply zb1)|exact HB.out)) hb);clear HB;have HO386:=n0_;have HB:=n1_;clear n0_ n1_;clear hb ho25;obtain ⟨Ao26,co26,eo26⟩:=Kd.R_slice HO386.out;subst eo26)|((with_reducible refine gate_callee (f:=59) rfl ?_);refine goesL_ (some 5) rfl rfl Try.func59 (by kernel_rfl) rfl #[.agg #[.int .i64 5,.int .i64 2,.string (⟨#[65]⟩:ByteArray),.string (⟨#[]⟩:ByteArray),.slice Ao26 y384.length co26],.int .i64 16] rfl (by (try simp only [List.map_toArray,List.map_cons,List.map_nil]);first|done|rfl|(simp only [List.length_drop,List.length_take];rfl)) ?_;(with_reducible refine (label_Encode.calls k 5 2 (⟨#[65]⟩:ByteArray) (⟨#[]⟩:ByteArray) _ _ y384 16 t387 _ ?side1 ?side2 A1.out).mono ?_);(case side1=>repeat (first|exact (Kd.R_reads' HO386.out).2.2|(with_reducible refine Kd.C_alloc ?_ _)|(with_reducible refine Kd.C_drewN ?_ _)|(with_reducible refine Kd.C_drew ?_)));(case side2=>exact (Kd.R_reads' HO386.out).2.1);rintro e w27 ⟨rfl,hb⟩;refine ⟨_,rfl,?_⟩;have n0_:=Z0.mk (Kd.R_below (by (with_reducible repeat (first|apply Kd.R_alloc|apply Kd.R_drewN|apply Kd.R_drew));exact HO386.out) hb);have n1_:=Z0.mk (below_step (by repeat (first|(with_reducible first|exact HB.out|apply zbA|apply zbN|apply zb1)|exact HB.out)) hb);clear HO386;clear HB;have HO386:=n0_;have HB:=n1_;clear n0_ n1_;(try clear hb);(try clear hb2);(try clear hk);(try clear hi))|((with_reducible refine gate_callee (f:=61) rfl ?_);refine goesL_ (some 6) rfl rfl Try.func61 (by kernel_rfl) rfl #[.int .i64 16] rfl (by (try simp only [List.map_toArray,List.map_cons,List.map_nil]);first|done|rfl|(simp only [List.length_drop,List.length_take];rfl)) ?_;(with_reducible refine (label_TableTracks.calls 16 t388 _ A2.out).mono ?_);rintro e w' ⟨rfl,⟨nd,rfl⟩⟩;refine ⟨_,rfl,?_⟩))
 go_ret
 exact ⟨by first|rfl|(simp [errW_none,errW_some] <;> rfl)|(simp [*,errW_none,errW_some] <;> rfl),by repeat (first|(with_reducible first|exact HB.out|apply zbA|apply zbN|apply zb1)|exact HB.out)⟩
end Go.Proofs.Ytegefemkmdlmaaa.P
end
