import Derived.Test.YtegefemkmdlmaaaF0
import Derived.Test.YtegefemkmdlmaaaF77
import Derived.Test.YtegefemkmdlmaaaF107
namespace Go.Proofs.Ytegefemkmdlmaaa.P
open Go.RowKit Go.Proofs.YtegefemkmdlmaaaW.PrintWords Go.Proofs.YtegefemkmdlmaaaW.PrintLast Go.Proofs.YtegefemkmdlmaaaW.PrintMore
attribute [local go_sem] max2_int min2_int max_two min_two max_three min_three max_four min_four
set_option linter.unusedVariables false
set_option linter.unusedSimpArgs false
def q1ReadText.j0:Nat→Int→Bool→ByteArray→Int→Option (ByteArray×ByteArray×Int)
 | 0,_,_,_,_=>none
 | k + 1,x6,x23,x447000,x447001=>if x23=true then ((q1fail.f 11).bind fun bt447=>(some ((⟨#[]⟩:ByteArray),bt447.1,bt447.2))) else (if x447001=0 then (if 0≤x6 then (if x6≤(x447000.size:Int) then (some (x447000.extract 0 (x6:Int).toNat,x447000.extract (x6:Int).toNat x447000.size,0)) else (none)) else (none)) else (some ((⟨#[]⟩:ByteArray),x447000,x447001)))
def q1ReadText.f (k:Nat) (a0_0:ByteArray) (a0_1:Int) (a1:Int):Option (ByteArray×ByteArray×Int):=(q1ReadCount.f k a0_0 a0_1 a1).bind fun bt443=>(if bt443.2.2=0 then (q1ReadText.j0 k bt443.1 (decide (bt443.1 > (bt443.2.1.size:Int))) bt443.2.1 bt443.2.2) else (q1ReadText.j0 k bt443.1 false bt443.2.1 bt443.2.2))
theorem q1ReadText.mono_l:∀ k,(∀ y0 y1 y2 y3,LeO (q1ReadText.j0 k y0 y1 y2 y3) (q1ReadText.j0 (k + 1) y0 y1 y2 y3))
 | 0=>fun _ _ _ _ r h=>by simp [q1ReadText.j0] at h
 | k + 1=>by
  have ih0:=q1ReadText.mono_l k
  ·intro y0 y1 y2 y3
   unfold q1ReadText.j0
   repeat' first
   | (with_reducible exact ih0 _ _ _ _)
   | (with_reducible exact q1ReadCount.mono _ _ _ _)
   | (with_reducible exact LeO.refl _)
   | (with_reducible exact LeO.none _)
   | (with_reducible refine LeO.ite ?_ ?_)
   | (with_reducible refine LeO.bind ?_ (fun _=>?_))
   | exact ih0 _ _ _ _
   | exact q1ReadCount.mono _ _ _ _
   | exact LeO.none _
   | refine LeO.ite ?_ ?_
   | refine LeO.bind ?_ (fun _=>?_)
theorem q1ReadText.mono:∀ a0 a1 a2 k,LeO (q1ReadText.f k a0 a1 a2) (q1ReadText.f (k + 1) a0 a1 a2):=by
 intro a0 a1 a2 k
 have ih0:=q1ReadText.mono_l k
 unfold q1ReadText.f
 repeat' first
   | (with_reducible exact ih0 _ _ _ _)
   | (with_reducible exact q1ReadCount.mono _ _ _ _)
   | (with_reducible exact LeO.refl _)
   | (with_reducible exact LeO.none _)
   | (with_reducible refine LeO.ite ?_ ?_)
   | (with_reducible refine LeO.bind ?_ (fun _=>?_))
   | exact ih0 _ _ _ _
   | exact q1ReadCount.mono _ _ _ _
   | exact LeO.none _
   | refine LeO.ite ?_ ?_
   | refine LeO.bind ?_ (fun _=>?_)
def q1ReadText.T6:Bool×List (List Nat×List Nat):=(true,[([],[]),([0],[0]),([],[]),([1,2],[1,2]),([],[]),([4],[4]),([],[]),([5,6],[5,6]),([7],[7]),([3,0,1,2,3],[3]),([8,9,0,1,2,3,4,5,6,7,8,9],[8])])
def q1ReadText.B6:List Nat:=[0,1,0,7,0,16,0,112,240,15,1023]
theorem q1ReadText.tab6 : rtab .any (opsOf Try.f76 6)=q1ReadText.T6:=by kernel_rfl
theorem q1ReadText.bits6 : waitsOk q1ReadText.T6.2 q1ReadText.B6=true:=by kernel_rfl
set_option maxHeartbeats 8000000 in
set_option maxRecDepth 100000 in
theorem q1ReadText.calls (k:Nat) (a0_0:ByteArray) (a0_1:Int) (a1:Int) (r1:ByteArray) (r2:ByteArray) (r3:Int) (w:World) (h : q1ReadText.f k a0_0 a0_1 a1=some (r1,r2,r3)) :
  Calls Try.prog 76 #[.agg #[.string a0_0,.int .i64 a0_1],.int .i64 a1] w fun e w'=>e=.returned (.tuple #[.string r1,.agg #[.string r2,.int .i64 r3]])∧Below w.heap.size w w':=by
 have hu69:=Try.underlying69
 have HB:=Z0.mk (Below.refl w.heap.size w)
 have H:((q1ReadCount.f k a0_0 a0_1 a1).bind fun bt443=>(if bt443.2.2=0 then (q1ReadText.j0 k bt443.1 (decide (bt443.1 > (bt443.2.1.size:Int))) bt443.2.1 bt443.2.2) else (q1ReadText.j0 k bt443.1 false bt443.2.1 bt443.2.2)))=some (r1,r2,r3):=h
 clear h
 replace H:=Option.bind_eq_some_iff.mp H
 obtain ⟨⟨t443,t444,t445⟩,A30,H⟩:=H
 replace H:(if t445=0 then (q1ReadText.j0 k t443 (decide (t443 > (t444.size:Int))) t444 t445) else (q1ReadText.j0 k t443 false t444 t445))=some (r1,r2,r3):=H
 have A3:=Z0.mk A30
 clear A30
 have HC4:=Z0.mk H
 clear H
 go_enter Try.func76,Try.ntmps76
 go_upto_region 2 with (first|((with_reducible refine gate_dst (N:=2) rfl ?_);(try (refine gate_guard (by rfl) ?_;dsimp only));refine box_event ?hg (N:=2) ?hd (cs:=#[.string a0_0,.int .i64 a0_1]) (t:=69) ?hr ?_;(case hd=>rfl);(case hg=>rfl);(case hr=>first|(go_simp;done)|(go_simp;rfl));intro gb441 hg w5 hbox hb;have n0_:=Z0.mk (below_step (by repeat (first|(with_reducible first|exact HB.out|apply zbA|apply zbN|apply zb1)|exact HB.out)) hb);have n1_:=Z0.mk (hbox);have n2_:=Z0.mk ((by rw [hg];exact (below_size (by repeat (first|(with_reducible first|exact HB.out|apply zbA|apply zbN|apply zb1)|exact HB.out))) : w.heap.size≤gb441));have n3_:=Z0.mk ((by rw [hg];exact (below_size (by repeat (first|(with_reducible first|exact HB.out|apply zbA|apply zbN|apply zb1)|exact HB.out))) : w.heap.size≤gb441));clear HB;have HB:=n0_;have BK441:=n1_;have GW441:=n2_;have GE441:=n3_;clear n0_ n1_ n2_ n3_;clear hb hbox hg)|((with_reducible refine gate_dst (N:=5) rfl ?_);(try (refine gate_guard (by rfl) ?_;dsimp only));refine box_event ?hg (N:=5) ?hd (cs:=#[.string (⟨#[]⟩:ByteArray),.int .i64 0]) (t:=69) ?hr ?_;(case hd=>rfl);(case hg=>rfl);(case hr=>first|(go_simp;done)|(go_simp;rfl));intro gb442 hg w6 hbox hb;have n0_:=Z0.mk (blk_below (g:=gb441) (o:=.cells #[.string a0_0,.int .i64 a0_1] 69 (0,0)) (by (with_reducible repeat (first|refine zkN ?_ _|refine zkD ?_|refine zkA ?_ _));exact BK441.out) hb);have n1_:=Z0.mk (below_step (by repeat (first|(with_reducible first|exact HB.out|apply zbA|apply zbN|apply zb1|refine zbS ?_ GE441.out)|exact HB.out)) hb);have n2_:=Z0.mk (hbox);have n3_:=Z0.mk ((by rw [hg];exact (below_size (by repeat (first|(with_reducible first|exact HB.out|apply zbA|apply zbN|apply zb1|refine zbS ?_ GE441.out)|exact HB.out))) : w.heap.size≤gb442));have n4_:=Z0.mk ((by rw [hg];exact (below_size (by repeat (first|(with_reducible first|exact HB.out|apply zbA|apply zbN|apply zb1|refine zbS ?_ GE441.out)|exact HB.out))) : w.heap.size≤gb442));have n5_:=Z0.mk ((by rw [hg];exact Nat.ne_of_lt (blk_lt (g:=gb441) (o:=.cells #[.string a0_0,.int .i64 a0_1] 69 (0,0)) (by (with_reducible repeat (first|refine zkN ?_ _|refine zkD ?_|refine zkA ?_ _));exact BK441.out)) : gb441 ≠ gb442));have n6_:=Z0.mk ((by rw [hg];exact Nat.ne_of_gt (blk_lt (g:=gb441) (o:=.cells #[.string a0_0,.int .i64 a0_1] 69 (0,0)) (by (with_reducible repeat (first|refine zkN ?_ _|refine zkD ?_|refine zkA ?_ _));exact BK441.out)) : gb442 ≠ gb441));clear BK441;clear HB;have BK441:=n0_;have HB:=n1_;have BK442:=n2_;have GW442:=n3_;have GE442:=n4_;have NB441_442:=n5_;have NB442_441:=n6_;clear n0_ n1_ n2_ n3_ n4_ n5_ n6_;clear hb hbox hg;have hnb7:=NB441_442.out;have hnc7:=NB442_441.out;have hcz8_0 : w6.cell? ⟨gb441,0,none⟩=some (.string a0_0):=(zkC BK441.out 0).trans rfl;have hcz8_1 : w6.cell? ⟨gb441,1,none⟩=some (.int .i64 a0_1):=(zkC BK441.out 1).trans rfl;have hfz8_0:=zkF BK441.out 0;have hfz8_1:=zkF BK441.out 1)|((with_reducible refine gate_callee (f:=77) rfl ?_);refine goesL_ (some 11) rfl rfl Try.func77 (by kernel_rfl) rfl #[.agg #[.string a0_0,.int .i64 a0_1],.int .i64 a1] rfl (by (try simp only [List.map_toArray,List.map_cons,List.map_nil]);first|done|rfl|(simp only [List.length_drop,List.length_take];rfl)) ?_;(with_reducible refine (q1ReadCount.calls k a0_0 a0_1 a1 t443 t444 t445 _ A3.out).mono ?_);rintro e w9 ⟨rfl,hb⟩;refine ⟨_,rfl,?_⟩;have n0_:=Z0.mk (blk_below (g:=gb441) (o:=.cells #[.string a0_0,.int .i64 a0_1] 69 (0,0)) (by (with_reducible repeat (first|refine zkN ?_ _|refine zkD ?_|refine zkA ?_ _));exact BK441.out) hb);have n1_:=Z0.mk (blk_below (g:=gb442) (o:=.cells #[.string (⟨#[]⟩:ByteArray),.int .i64 0] 69 (0,0)) (by (with_reducible repeat (first|refine zkN ?_ _|refine zkD ?_|refine zkA ?_ _));exact BK442.out) hb);have n2_:=Z0.mk (below_step (by repeat (first|(with_reducible first|exact HB.out|apply zbA|apply zbN|apply zb1|refine zbS ?_ GE441.out|refine zbS ?_ GE442.out)|exact HB.out)) hb);clear BK441;clear BK442;clear HB;have BK441:=n0_;have BK442:=n1_;have HB:=n2_;clear n0_ n1_ n2_;(try clear hb);(try clear hb2);(try clear hk);(try clear hi))|((with_reducible refine gate_dst (N:=7) rfl ?_);(try (refine gate_guard (by rfl) ?_;dsimp only));refine box_event ?hg (N:=7) ?hd (cs:=#[.string (⟨#[]⟩:ByteArray),.int .i64 0]) (t:=69) ?hr ?_;(case hd=>rfl);(case hg=>rfl);(case hr=>first|(go_simp;done)|(go_simp;rfl));intro gb446 hg w10 hbox hb;have n0_:=Z0.mk (blk_below (g:=gb441) (o:=.cells #[.string a0_0,.int .i64 a0_1] 69 (0,0)) (by (with_reducible repeat (first|refine zkN ?_ _|refine zkD ?_|refine zkA ?_ _));exact BK441.out) hb);have n1_:=Z0.mk (blk_below (g:=gb442) (o:=.cells #[.string (⟨#[]⟩:ByteArray),.int .i64 0] 69 (0,0)) (by (with_reducible repeat (first|refine zkN ?_ _|refine zkD ?_|refine zkA ?_ _));exact BK442.out) hb);have n2_:=Z0.mk (below_step (by repeat (first|(with_reducible first|exact HB.out|apply zbA|apply zbN|apply zb1|refine zbS ?_ GE441.out|refine zbS ?_ GE442.out)|exact HB.out)) hb);have n3_:=Z0.mk (hbox);have n4_:=Z0.mk ((by rw [hg];exact (below_size (by repeat (first|(with_reducible first|exact HB.out|apply zbA|apply zbN|apply zb1|refine zbS ?_ GE441.out|refine zbS ?_ GE442.out)|exact HB.out))) : w.heap.size≤gb446));have n5_:=Z0.mk ((by rw [hg];exact (below_size (by repeat (first|(with_reducible first|exact HB.out|apply zbA|apply zbN|apply zb1|refine zbS ?_ GE441.out|refine zbS ?_ GE442.out)|exact HB.out))) : w.heap.size≤gb446));have n6_:=Z0.mk ((by rw [hg];exact Nat.ne_of_lt (blk_lt (g:=gb441) (o:=.cells #[.string a0_0,.int .i64 a0_1] 69 (0,0)) (by (with_reducible repeat (first|refine zkN ?_ _|refine zkD ?_|refine zkA ?_ _));exact BK441.out)) : gb441 ≠ gb446));have n7_:=Z0.mk ((by rw [hg];exact Nat.ne_of_gt (blk_lt (g:=gb441) (o:=.cells #[.string a0_0,.int .i64 a0_1] 69 (0,0)) (by (with_reducible repeat (first|refine zkN ?_ _|refine zkD ?_|refine zkA ?_ _));exact BK441.out)) : gb446 ≠ gb441));have n8_:=Z0.mk ((by rw [hg];exact Nat.ne_of_lt (blk_lt (g:=gb442) (o:=.cells #[.string (⟨#[]⟩:ByteArray),.int .i64 0] 69 (0,0)) (by (with_reducible repeat (first|refine zkN ?_ _|refine zkD ?_|refine zkA ?_ _));exact BK442.out)) : gb442 ≠ gb446));have n9_:=Z0.mk ((by rw [hg];exact Nat.ne_of_gt (blk_lt (g:=gb442) (o:=.cells #[.string (⟨#[]⟩:ByteArray),.int .i64 0] 69 (0,0)) (by (with_reducible repeat (first|refine zkN ?_ _|refine zkD ?_|refine zkA ?_ _));exact BK442.out)) : gb446 ≠ gb442));clear BK441;clear BK442;clear HB;have BK441:=n0_;have BK442:=n1_;have HB:=n2_;have BK446:=n3_;have GW446:=n4_;have GE446:=n5_;have NB441_446:=n6_;have NB446_441:=n7_;have NB442_446:=n8_;have NB446_442:=n9_;clear n0_ n1_ n2_ n3_ n4_ n5_ n6_ n7_ n8_ n9_;clear hb hbox hg;have hnb11:=NB446_441.out;have hnc11:=NB441_446.out;have hnb12:=NB446_442.out;have hnc12:=NB442_446.out;have hcz13_0 : w10.cell? ⟨gb446,0,none⟩=some (.string (⟨#[]⟩:ByteArray)):=(zkC BK446.out 0).trans rfl;have hcz13_1 : w10.cell? ⟨gb446,1,none⟩=some (.int .i64 0):=(zkC BK446.out 1).trans rfl;have hfz13_0:=zkF BK446.out 0;have hfz13_1:=zkF BK446.out 1))
 (try simp only [Act.put,List.setIfInBounds_toArray,List.set_cons_zero,List.set_cons_succ])
 go_cut [23] (fun v23 wc=>∃ (kq:Nat) (x23_3:Bool),v23=.bool x23_3∧Z0 (q1ReadText.j0 kq t443 x23_3 t444 t445=some (r1,r2,r3))∧Z0 (kq≤k)∧Z0 (wc.heap[gb441]?=some (.cells #[.string a0_0,.int .i64 a0_1] 69 (0,0)))∧Z0 (wc.heap[gb442]?=some (.cells #[.string (⟨#[]⟩:ByteArray),.int .i64 0] 69 (0,0)))∧Z0 (wc.heap[gb446]?=some (.cells #[.string t444,.int .i64 t445] 69 (0,0)))∧Z0 (Below w.heap.size w wc))
 case first =>
  have H:=HC4.out
  clear HC4
  by_cases c14 : t445=0
  ·rw [if_pos c14] at H
   have c14b0:(t445 == 0)=true:=beq_iff_eq.mpr c14
   have c14b1:(t445 != 0)=false:=bne_eq_false_iff_eq.mpr c14
   clear c14
   (first|rw [c14b0]|(simp only [i64_w,i32_w];rw [c14b0])|skip)
   have H':=Z0.mk H
   clear H
   have hnb15:=NB446_441.out
   have hnc15:=NB441_446.out
   have hnb16:=NB446_442.out
   have hnc16:=NB442_446.out
   have hcz17_0 : w10.cell? ⟨gb446,0,none⟩=some (.string (⟨#[]⟩:ByteArray)):=(zkC BK446.out 0).trans rfl
   have hcz17_1 : w10.cell? ⟨gb446,1,none⟩=some (.int .i64 0):=(zkC BK446.out 1).trans rfl
   have hfz17_0:=zkF BK446.out 0
   have hfz17_1:=zkF BK446.out 1
   go_wp2
   go_meet
   case rel=>exact ⟨_,(decide (t443 > (t444.size:Int))),(by first|rfl|(simp;done)|(simp [*];done)),H',⟨by first|omega|exact Nat.le_refl _⟩,⟨by (with_reducible repeat (first|refine zkN ?_ _|refine zkD ?_|refine zkA ?_ _));refine blk_far ?_ NB441_446.out _;(with_reducible repeat (first|refine zkN ?_ _|refine zkD ?_|refine zkA ?_ _));refine blk_far ?_ NB441_446.out _;(with_reducible repeat (first|refine zkN ?_ _|refine zkD ?_|refine zkA ?_ _));exact BK441.out⟩,⟨by (with_reducible repeat (first|refine zkN ?_ _|refine zkD ?_|refine zkA ?_ _));refine blk_far ?_ NB442_446.out _;(with_reducible repeat (first|refine zkN ?_ _|refine zkD ?_|refine zkA ?_ _));refine blk_far ?_ NB442_446.out _;(with_reducible repeat (first|refine zkN ?_ _|refine zkD ?_|refine zkA ?_ _));exact BK442.out⟩,⟨by (with_reducible repeat (first|refine zkN ?_ _|refine zkD ?_|refine zkA ?_ _));refine blk_put (cs:=#[.string t444,.int .i64 0]) ?_ 1 _ rfl;(with_reducible repeat (first|refine zkN ?_ _|refine zkD ?_|refine zkA ?_ _));refine blk_put (cs:=#[.string (⟨#[]⟩:ByteArray),.int .i64 0]) ?_ 0 _ rfl;(with_reducible repeat (first|refine zkN ?_ _|refine zkD ?_|refine zkA ?_ _));exact BK446.out⟩,⟨by repeat (first|(with_reducible first|exact HB.out|apply zbA|apply zbN|apply zb1|refine zbS ?_ GE441.out|refine zbS ?_ GE442.out|refine zbS ?_ GE446.out)|exact HB.out)⟩⟩
  rw [if_neg c14] at H
  have c14b0:(t445 == 0)=false:=beq_eq_false_iff_ne.mpr c14
  have c14b1:(t445 != 0)=true:=bne_iff_ne.mpr c14
  (first|rw [c14b0]|(simp only [i64_w,i32_w];rw [c14b0])|skip)
  have H':=Z0.mk H
  clear H
  have hnb18:=NB446_441.out
  have hnc18:=NB441_446.out
  have hnb19:=NB446_442.out
  have hnc19:=NB442_446.out
  have hcz20_0 : w10.cell? ⟨gb446,0,none⟩=some (.string (⟨#[]⟩:ByteArray)):=(zkC BK446.out 0).trans rfl
  have hcz20_1 : w10.cell? ⟨gb446,1,none⟩=some (.int .i64 0):=(zkC BK446.out 1).trans rfl
  have hfz20_0:=zkF BK446.out 0
  have hfz20_1:=zkF BK446.out 1
  go_wp2
  go_meet
  case rel=>exact ⟨_,(false),(by first|rfl|(simp;done)|(simp [*];done)),H',⟨by first|omega|exact Nat.le_refl _⟩,⟨by (with_reducible repeat (first|refine zkN ?_ _|refine zkD ?_|refine zkA ?_ _));refine blk_far ?_ NB441_446.out _;(with_reducible repeat (first|refine zkN ?_ _|refine zkD ?_|refine zkA ?_ _));refine blk_far ?_ NB441_446.out _;(with_reducible repeat (first|refine zkN ?_ _|refine zkD ?_|refine zkA ?_ _));exact BK441.out⟩,⟨by (with_reducible repeat (first|refine zkN ?_ _|refine zkD ?_|refine zkA ?_ _));refine blk_far ?_ NB442_446.out _;(with_reducible repeat (first|refine zkN ?_ _|refine zkD ?_|refine zkA ?_ _));refine blk_far ?_ NB442_446.out _;(with_reducible repeat (first|refine zkN ?_ _|refine zkD ?_|refine zkA ?_ _));exact BK442.out⟩,⟨by (with_reducible repeat (first|refine zkN ?_ _|refine zkD ?_|refine zkA ?_ _));refine blk_put (cs:=#[.string t444,.int .i64 0]) ?_ 1 _ rfl;(with_reducible repeat (first|refine zkN ?_ _|refine zkD ?_|refine zkA ?_ _));refine blk_put (cs:=#[.string (⟨#[]⟩:ByteArray),.int .i64 0]) ?_ 0 _ rfl;(with_reducible repeat (first|refine zkN ?_ _|refine zkD ?_|refine zkA ?_ _));exact BK446.out⟩,⟨by repeat (first|(with_reducible first|exact HB.out|apply zbA|apply zbN|apply zb1|refine zbS ?_ GE441.out|refine zbS ?_ GE442.out|refine zbS ?_ GE446.out)|exact HB.out)⟩⟩
 case rest =>
  clear HC4
  try clear c1
  try clear p2
  try clear c7
  try clear c11
  try clear c12
  try clear c14
  try clear c14b0
  try clear c14b1
  try clear c15
  try clear c16
  try clear c18
  try clear c19
  try clear hcz13_0
  try clear hcz13_1
  try clear hcz17_0
  try clear hcz17_1
  try clear hcz20_0
  try clear hcz20_1
  try clear hcz8_0
  try clear hcz8_1
  try clear hfz13_0
  try clear hfz13_1
  try clear hfz17_0
  try clear hfz17_1
  try clear hfz20_0
  try clear hfz20_1
  try clear hfz8_0
  try clear hfz8_1
  obtain ⟨kq,x23_3,rfl,HA,HJ3,BK441,BK442,BK446,HB⟩:=hcut
  cases kq with
  | zero=>exact absurd HA.out (by simp [q1ReadText.j0])
  | succ kj3 =>
   have H:=HA.out
   clear HA
   simp only [q1ReadText.j0] at H
   by_cases c21 : x23_3=true
   ·subst c21
    have H1:((q1fail.f 11).bind fun bt447=>(some ((⟨#[]⟩:ByteArray),bt447.1,bt447.2)))=some (r1,r2,r3):=by rw [if_pos rfl] at H;exact H
    clear H
    have H:=H1
    clear H1
    replace H:=Option.bind_eq_some_iff.mp H
    obtain ⟨⟨t447,t448⟩,A220,H⟩:=H
    replace H:(some ((⟨#[]⟩:ByteArray),t447,t448))=some (r1,r2,r3):=H
    have A22:=Z0.mk A220
    clear A220
    simp only [Option.some.injEq,Prod.mk.injEq] at H
    obtain ⟨rfl,rfl,rfl⟩:=H
    go_wp2_with (first|((with_reducible refine gate_callee (f:=107) rfl ?_);refine goesL_ (some 24) rfl rfl Try.func107 (by kernel_rfl) rfl #[.int .i64 11] rfl (by (try simp only [List.map_toArray,List.map_cons,List.map_nil]);first|done|rfl|(simp only [List.length_drop,List.length_take];rfl)) ?_;(with_reducible refine (q1fail.calls 11 t447 t448 _ A22.out).mono ?_);rintro e w23 ⟨rfl,hb⟩;refine ⟨_,rfl,?_⟩;have n0_:=Z0.mk (blk_below (g:=gb441) (o:=.cells #[.string a0_0,.int .i64 a0_1] 69 (0,0)) (by (with_reducible repeat (first|refine zkN ?_ _|refine zkD ?_|refine zkA ?_ _));exact BK441.out) hb);have n1_:=Z0.mk (blk_below (g:=gb442) (o:=.cells #[.string (⟨#[]⟩:ByteArray),.int .i64 0] 69 (0,0)) (by (with_reducible repeat (first|refine zkN ?_ _|refine zkD ?_|refine zkA ?_ _));exact BK442.out) hb);have n2_:=Z0.mk (blk_below (g:=gb446) (o:=.cells #[.string t444,.int .i64 t445] 69 (0,0)) (by (with_reducible repeat (first|refine zkN ?_ _|refine zkD ?_|refine zkA ?_ _));exact BK446.out) hb);have n3_:=Z0.mk (below_step (by repeat (first|(with_reducible first|exact HB.out|apply zbA|apply zbN|apply zb1|refine zbS ?_ GE441.out|refine zbS ?_ GE442.out|refine zbS ?_ GE446.out)|exact HB.out)) hb);clear BK441;clear BK442;clear BK446;clear HB;have BK441:=n0_;have BK442:=n1_;have BK446:=n2_;have HB:=n3_;clear n0_ n1_ n2_ n3_;(try clear hb);(try clear hb2);(try clear hk);(try clear hi);have hnb24:=NB442_441.out;have hnc24:=NB441_442.out;have hnb25:=NB442_446.out;have hnc25:=NB446_442.out;have hcz26_0 : w23.cell? ⟨gb442,0,none⟩=some (.string (⟨#[]⟩:ByteArray)):=(zkC BK442.out 0).trans rfl;have hcz26_1 : w23.cell? ⟨gb442,1,none⟩=some (.int .i64 0):=(zkC BK442.out 1).trans rfl;have hfz26_0:=zkF BK442.out 0;have hfz26_1:=zkF BK442.out 1))
    refine bodyPost_ret (results_tc rfl _ _ gb442 69 #[.string t447,.int .i64 t448] (0,0) _ rfl (by (with_reducible repeat (first|refine zkN ?_ _|refine zkD ?_|refine zkA ?_ _));refine blk_put (cs:=#[.string t447,.int .i64 0]) ?_ 1 _ rfl;(with_reducible repeat (first|refine zkN ?_ _|refine zkD ?_|refine zkA ?_ _));refine blk_put (cs:=#[.string (⟨#[]⟩:ByteArray),.int .i64 0]) ?_ 0 _ rfl;(with_reducible repeat (first|refine zkN ?_ _|refine zkD ?_|refine zkA ?_ _));exact BK442.out) Try.underlying69 rfl (by kernel_rfl)) rfl ?_
    exact ⟨by first|rfl|(simp [errW_none,errW_some] <;> rfl)|(simp [*,errW_none,errW_some] <;> rfl),by repeat (first|(with_reducible first|exact HB.out|apply zbA|apply zbN|apply zb1|refine zbS ?_ GE441.out|refine zbS ?_ GE442.out|refine zbS ?_ GE446.out)|exact HB.out)⟩
   replace c21:=Bool.eq_false_iff.mpr c21
   subst c21
   have H1:(if t445=0 then (if 0≤t443 then (if t443≤(t444.size:Int) then (some (t444.extract 0 (t443:Int).toNat,t444.extract (t443:Int).toNat t444.size,0)) else (none)) else (none)) else (some ((⟨#[]⟩:ByteArray),t444,t445)))=some (r1,r2,r3):=by rw [if_neg (show ¬ (false=true) by decide)] at H;exact H
   clear H
   have H:=H1
   clear H1
   by_cases c27 : t445=0
   ·rw [if_pos c27] at H
    have c27b0:(t445 == 0)=true:=beq_iff_eq.mpr c27
    have c27b1:(t445 != 0)=false:=bne_eq_false_iff_eq.mpr c27
    clear c27
    by_cases c28 : 0≤t443
    ·rw [if_pos c28] at H
     have c28b0:=eq_true c28
     have c28b1 : decide (0≤t443)=true:=decide_eq_true c28
     clear c28
     by_cases c29 : t443≤(t444.size:Int)
     ·rw [if_pos c29] at H
      have c29b0:=eq_true c29
      have c29b1 : decide (t443≤(t444.size:Int))=true:=decide_eq_true c29
      clear c29
      have c30b0:=eq_true (of_decide_eq_true (by first|(with_reducible assumption)|assumption) : 0≤t443)
      have c31b0:=eq_true (of_decide_eq_true (by first|(with_reducible assumption)|assumption) : t443≤(t444.size:Int))
      simp only [Option.some.injEq,Prod.mk.injEq] at H
      obtain ⟨rfl,rfl,rfl⟩:=H
      have hnb32:=NB446_441.out
      have hnc32:=NB441_446.out
      have hnb33:=NB446_442.out
      have hnc33:=NB442_446.out
      have hcz34_0 : wc.cell? ⟨gb446,0,none⟩=some (.string t444):=(zkC BK446.out 0).trans rfl
      have hcz34_1 : wc.cell? ⟨gb446,1,none⟩=some (.int .i64 t445):=(zkC BK446.out 1).trans rfl
      have hfz34_0:=zkF BK446.out 0
      have hfz34_1:=zkF BK446.out 1
      try go_wp2
      have n0_:=Z0.mk (zkD BK441.out)
      have n1_:=Z0.mk (zkD BK442.out)
      have n2_:=Z0.mk (zkD BK446.out)
      have n3_:=Z0.mk (zb1 HB.out)
      clear BK441
      clear BK442
      clear BK446
      clear HB
      have BK441:=n0_
      have BK442:=n1_
      have BK446:=n2_
      have HB:=n3_
      clear n0_ n1_ n2_ n3_
      refine start_ (n:=11) (S:=fun w'=>w'.cell? ⟨gb446,0,none⟩=some (.string t444)∧w'.cell? ⟨gb446,1,none⟩=some (.int .i64 t445)) (ds:=[]) #[false,false,false,false,false,false,false,false,false,false,false] (by kernel_rfl) rfl rfl ⟨(zkC BK446.out 0).trans rfl,(zkC BK446.out 1).trans rfl⟩ (fun hHeld=>?_);refine with_tabW q1ReadText.tab6 q1ReadText.bits6 (fun HT_ HW_=>?_)
      generalize wc.drew=w35 at BK441 BK442 BK446 HB hHeld ⊢
      refine pure_ (i:=0) (N:=some 29) (v:=?_) (a':=?_) #[true,false,false,false,false,false,false,false,false,false,false] rfl rfl (any_of HT_.out (by kernel_rfl)) (fun _ _ _ h=>h) (Or.inl ⟨by rfl,?_⟩) ?_ ?_
      rotate_left
      ·intro w'
       go_simp
       with_reducible rfl
      rotate_left
      ·simp only [Act.put,List.setIfInBounds_toArray,List.set_cons_zero,List.set_cons_succ,i64_w,i32_w]
       rfl
      refine pure_ (i:=2) (N:=some 31) (v:=?_) (a':=?_) #[true,false,true,false,false,false,false,false,false,false,false] rfl rfl (any_of HT_.out (by kernel_rfl)) (fun _ _ _ h=>h) (Or.inl ⟨by rfl,?_⟩) ?_ ?_
      rotate_left
      ·intro w'
       go_simp
       with_reducible rfl
      rotate_left
      ·simp only [Act.put,List.setIfInBounds_toArray,List.set_cons_zero,List.set_cons_succ,i64_w,i32_w]
       rfl
      refine pure_ (i:=4) (N:=some 33) (v:=?_) (a':=?_) #[true,false,true,false,true,false,false,false,false,false,false] rfl rfl (any_of HT_.out (by kernel_rfl)) (fun _ _ _ h=>h) (Or.inl ⟨by rfl,?_⟩) ?_ ?_
      rotate_left
      ·intro w'
       go_simp
       with_reducible rfl
      rotate_left
      ·simp only [Act.put,List.setIfInBounds_toArray,List.set_cons_zero,List.set_cons_succ,i64_w,i32_w]
       rfl
      refine pure_ (i:=6) (N:=some 35) (v:=?_) (a':=?_) #[true,false,true,false,true,false,true,false,false,false,false] rfl rfl (any_of HT_.out (by kernel_rfl)) (fun _ _ _ h=>h) (Or.inl ⟨by rfl,?_⟩) ?_ ?_
      rotate_left
      ·intro w'
       go_simp
       with_reducible rfl
      rotate_left
      ·simp only [Act.put,List.setIfInBounds_toArray,List.set_cons_zero,List.set_cons_succ,i64_w,i32_w]
       rfl
      refine take_ (i:=1) (N:=some 30) (v:=?_) (a':=?_) #[true,true,true,false,true,false,true,false,false,false,false] rfl rfl (take_ofW HT_.out HW_.out (by kernel_rfl)) (fun _ _ _ h=>h) (Or.inl ⟨by rfl,?_⟩) hHeld ?_ ?_
      rotate_left
      ·rintro w' ⟨s0,s1⟩
       go_simp
       with_reducible rfl
      rotate_left
      ·simp only [Act.put,List.setIfInBounds_toArray,List.set_cons_zero,List.set_cons_succ,i64_w,i32_w]
       rfl
      refine pure_ (i:=3) (N:=some 32) (v:=?_) (a':=?_) #[true,true,true,true,true,false,true,false,false,false,false] rfl rfl (any_of HT_.out (by kernel_rfl)) (fun _ _ _ h=>h) (Or.inl ⟨by rfl,?_⟩) ?_ ?_
      rotate_left
      ·intro w'
       go_simp
       with_reducible rfl
      rotate_left
      ·simp only [Act.put,List.setIfInBounds_toArray,List.set_cons_zero,List.set_cons_succ,i64_w,i32_w]
       rfl
      refine pure_ (i:=9) (N:=some 4) (v:=?_) (a':=?_) #[true,true,true,true,true,false,true,false,false,true,false] rfl rfl (any_of HT_.out (by kernel_rfl)) (fun _ _ _ h=>h) (Or.inl ⟨by rfl,?_⟩) ?_ ?_
      rotate_left
      ·intro w'
       go_simp
       with_reducible rfl
      rotate_left
      ·simp only [Act.put,List.setIfInBounds_toArray,List.set_cons_zero,List.set_cons_succ,i64_w,i32_w]
       rfl
      refine take_ (i:=5) (N:=some 34) (v:=?_) (a':=?_) #[true,true,true,true,true,true,true,false,false,true,false] rfl rfl (take_ofW HT_.out HW_.out (by kernel_rfl)) (fun _ _ _ h=>h) (Or.inl ⟨by rfl,?_⟩) hHeld ?_ ?_
      rotate_left
      ·rintro w' ⟨s0,s1⟩
       go_simp
       with_reducible rfl
      rotate_left
      ·simp only [Act.put,List.setIfInBounds_toArray,List.set_cons_zero,List.set_cons_succ,i64_w,i32_w]
       rfl
      refine pure_ (i:=7) (N:=some 36) (v:=?_) (a':=?_) #[true,true,true,true,true,true,true,true,false,true,false] rfl rfl (any_of HT_.out (by kernel_rfl)) (fun _ _ _ h=>h) (Or.inl ⟨by rfl,?_⟩) ?_ ?_
      rotate_left
      ·intro w'
       go_simp
       with_reducible rfl
      rotate_left
      ·simp only [Act.put,List.setIfInBounds_toArray,List.set_cons_zero,List.set_cons_succ,i64_w,i32_w]
       rfl
      refine pure_ (i:=8) (N:=some 37) (v:=?_) (a':=?_) #[true,true,true,true,true,true,true,true,true,true,false] rfl rfl (any_of HT_.out (by kernel_rfl)) (fun _ _ _ h=>h) (Or.inl ⟨by rfl,?_⟩) ?_ ?_
      rotate_left
      ·intro w'
       go_simp
       with_reducible rfl
      rotate_left
      ·simp only [Act.put,List.setIfInBounds_toArray,List.set_cons_zero,List.set_cons_succ,i64_w,i32_w]
       rfl
      refine one_ (i:=10) (N:=none) #[true,true,true,true,true,true,true,true,true,true,true] rfl rfl (one_of HT_.out (by kernel_rfl)) (by decide) (fun K hK=>?_)
      have hs36 : w35.cell? ⟨gb442,0,none⟩=some (.string (⟨#[]⟩:ByteArray)):=(zkC BK442.out 0).trans rfl
      have hfs36:=zkF BK442.out 0
      have hns36_0:=NB441_442.out
      have hns36_2:=NB446_442.out
      have hms36_0:=NB442_441.out
      have hms36_2:=NB442_446.out
      have hs37 : w35.cell? ⟨gb442,1,none⟩=some (.int .i64 0):=(zkC BK442.out 1).trans rfl
      have hfs37:=zkF BK442.out 1
      have hns37_0:=NB441_442.out
      have hns37_2:=NB446_442.out
      have hms37_0:=NB442_441.out
      have hms37_2:=NB442_446.out
      refine skip_ (w1:=?_) (by rfl) rfl ?_ ?_
      rotate_left
      ·go_simp
       rfl
      refine hK.out _ _ ⟨((cell_far (p:=⟨gb442,_,none⟩) NB446_442.out _).trans (((cell_far (p:=⟨gb442,_,none⟩) NB446_442.out _).trans (hHeld.1)))),((cell_far (p:=⟨gb442,_,none⟩) NB446_442.out _).trans (((cell_far (p:=⟨gb442,_,none⟩) NB446_442.out _).trans (hHeld.2))))⟩ (fun hHeld=>?_)
      clear hK K
      refine done_ (done_of HT_.out (by kernel_rfl)) ?_
      try go_wp2
      refine bodyPost_ret (results_tc rfl _ _ gb442 69 #[.string (t444.extract (t443:Int).toNat t444.size),.int .i64 0] (0,0) _ rfl (by (with_reducible repeat (first|refine zkN ?_ _|refine zkD ?_|refine zkA ?_ _));refine blk_put (cs:=#[.string (t444.extract (t443:Int).toNat t444.size),.int .i64 0]) ?_ 1 _ rfl;(with_reducible repeat (first|refine zkN ?_ _|refine zkD ?_|refine zkA ?_ _));refine blk_put (cs:=#[.string (⟨#[]⟩:ByteArray),.int .i64 0]) ?_ 0 _ rfl;(with_reducible repeat (first|refine zkN ?_ _|refine zkD ?_|refine zkA ?_ _));exact BK442.out) Try.underlying69 rfl (by kernel_rfl)) rfl ?_
      exact ⟨by first|rfl|(simp [errW_none,errW_some] <;> rfl)|(simp [*,errW_none,errW_some] <;> rfl),by repeat (first|(with_reducible first|exact HB.out|apply zbA|apply zbN|apply zb1|refine zbS ?_ GE441.out|refine zbS ?_ GE442.out|refine zbS ?_ GE446.out)|exact HB.out)⟩
     rw [if_neg c29] at H
     exact absurd H (by simp)
    rw [if_neg c28] at H
    exact absurd H (by simp)
   rw [if_neg c27] at H
   have c27b0:(t445 == 0)=false:=beq_eq_false_iff_ne.mpr c27
   have c27b1:(t445 != 0)=true:=bne_iff_ne.mpr c27
   simp only [Option.some.injEq,Prod.mk.injEq] at H
   obtain ⟨rfl,rfl,rfl⟩:=H
   have hnb38:=NB446_441.out
   have hnc38:=NB441_446.out
   have hnb39:=NB446_442.out
   have hnc39:=NB442_446.out
   have hcz40_0 : wc.cell? ⟨gb446,0,none⟩=some (.string t444):=(zkC BK446.out 0).trans rfl
   have hcz40_1 : wc.cell? ⟨gb446,1,none⟩=some (.int .i64 t445):=(zkC BK446.out 1).trans rfl
   have hfz40_0:=zkF BK446.out 0
   have hfz40_1:=zkF BK446.out 1
   try go_wp2
   have n0_:=Z0.mk (zkD BK441.out)
   have n1_:=Z0.mk (zkD BK442.out)
   have n2_:=Z0.mk (zkD BK446.out)
   have n3_:=Z0.mk (zb1 HB.out)
   clear BK441
   clear BK442
   clear BK446
   clear HB
   have BK441:=n0_
   have BK442:=n1_
   have BK446:=n2_
   have HB:=n3_
   clear n0_ n1_ n2_ n3_
   refine start_ (n:=3) (S:=fun w'=>w'.cell? ⟨gb446,0,none⟩=some (.string t444)∧w'.cell? ⟨gb446,1,none⟩=some (.int .i64 t445)) (ds:=[]) #[false,false,false] (by kernel_rfl) rfl rfl ⟨(zkC BK446.out 0).trans rfl,(zkC BK446.out 1).trans rfl⟩ (fun hHeld=>?_)
   generalize wc.drew=w41 at BK441 BK442 BK446 HB hHeld ⊢
   refine pure_ (i:=1) (N:=some 4) (v:=?_) (a':=?_) #[false,true,false] rfl rfl (by kernel_rfl) (fun _ _ _ h=>h) (Or.inl ⟨by rfl,?_⟩) ?_ ?_
   rotate_left
   ·intro w'
    go_simp
    with_reducible rfl
   rotate_left
   ·simp only [Act.put,List.setIfInBounds_toArray,List.set_cons_zero,List.set_cons_succ,i64_w,i32_w]
    rfl
   refine take_ (i:=0) (N:=some 28) (v:=?_) (a':=?_) #[true,true,false] rfl rfl (by kernel_rfl) (fun _ _ _ h=>h) (Or.inl ⟨by rfl,?_⟩) hHeld ?_ ?_
   rotate_left
   ·rintro w' ⟨s0,s1⟩
    go_simp
    with_reducible rfl
   rotate_left
   ·simp only [Act.put,List.setIfInBounds_toArray,List.set_cons_zero,List.set_cons_succ,i64_w,i32_w]
    rfl
   refine one_ (i:=2) (N:=none) #[true,true,true] rfl rfl (by kernel_rfl) (by decide) (fun K hK=>?_)
   have hs42 : w41.cell? ⟨gb442,0,none⟩=some (.string (⟨#[]⟩:ByteArray)):=(zkC BK442.out 0).trans rfl
   have hfs42:=zkF BK442.out 0
   have hns42_0:=NB441_442.out
   have hns42_2:=NB446_442.out
   have hms42_0:=NB442_441.out
   have hms42_2:=NB442_446.out
   have hs43 : w41.cell? ⟨gb442,1,none⟩=some (.int .i64 0):=(zkC BK442.out 1).trans rfl
   have hfs43:=zkF BK442.out 1
   have hns43_0:=NB441_442.out
   have hns43_2:=NB446_442.out
   have hms43_0:=NB442_441.out
   have hms43_2:=NB442_446.out
   refine skip_ (w1:=?_) (by rfl) rfl ?_ ?_
   rotate_left
   ·go_simp
    rfl
   refine hK.out _ _ ⟨((cell_far (p:=⟨gb442,_,none⟩) NB446_442.out _).trans (((cell_far (p:=⟨gb442,_,none⟩) NB446_442.out _).trans (hHeld.1)))),((cell_far (p:=⟨gb442,_,none⟩) NB446_442.out _).trans (((cell_far (p:=⟨gb442,_,none⟩) NB446_442.out _).trans (hHeld.2))))⟩ (fun hHeld=>?_)
   clear hK K
   refine done_ (by kernel_rfl) ?_
   try go_wp2
   refine bodyPost_ret (results_tc rfl _ _ gb442 69 #[.string t444,.int .i64 t445] (0,0) _ rfl (by (with_reducible repeat (first|refine zkN ?_ _|refine zkD ?_|refine zkA ?_ _));refine blk_put (cs:=#[.string t444,.int .i64 0]) ?_ 1 _ rfl;(with_reducible repeat (first|refine zkN ?_ _|refine zkD ?_|refine zkA ?_ _));refine blk_put (cs:=#[.string (⟨#[]⟩:ByteArray),.int .i64 0]) ?_ 0 _ rfl;(with_reducible repeat (first|refine zkN ?_ _|refine zkD ?_|refine zkA ?_ _));exact BK442.out) Try.underlying69 rfl (by kernel_rfl)) rfl ?_
   exact ⟨by first|rfl|(simp [errW_none,errW_some] <;> rfl)|(simp [*,errW_none,errW_some] <;> rfl),by repeat (first|(with_reducible first|exact HB.out|apply zbA|apply zbN|apply zb1|refine zbS ?_ GE441.out|refine zbS ?_ GE442.out|refine zbS ?_ GE446.out)|exact HB.out)⟩
end Go.Proofs.Ytegefemkmdlmaaa.P
