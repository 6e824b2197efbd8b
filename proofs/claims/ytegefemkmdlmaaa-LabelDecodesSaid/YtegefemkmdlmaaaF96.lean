import Derived.Test.YtegefemkmdlmaaaF0
import Derived.Test.YtegefemkmdlmaaaF122
namespace Go.Proofs.Ytegefemkmdlmaaa.P
open Go.RowKit Go.Proofs.YtegefemkmdlmaaaW.PrintWords Go.Proofs.YtegefemkmdlmaaaW.PrintLast Go.Proofs.YtegefemkmdlmaaaW.PrintMore
attribute [local go_sem] max2_int min2_int max_two min_two max_three min_three max_four min_four
set_option linter.unusedVariables false
set_option linter.unusedSimpArgs false
def q5clip.l0:Nat→Int→Int→Int→Int→Int→Option (Int×Int)
 | 0,_,_,_,_,_=>none
 | k + 1,x4,x232000,x232001,x234000,x234001=>if x4 < 128 then ((q5holds.f x232000 x232001 x4).bind fun t234=>(if t234=true then (if x234001=0 then (q5clip.l0 k (wrap64 (x4 + 1)) x232000 x232001 x4 (wrap64 (x234001 + 1))) else (q5clip.l0 k (wrap64 (x4 + 1)) x232000 x232001 x234000 (wrap64 (x234001 + 1)))) else (q5clip.l0 k (wrap64 (x4 + 1)) x232000 x232001 x234000 x234001))) else (some (x234000,x234001))
def q5clip.f (k:Nat) (a0_0:Int) (a0_1:Int):Option (Int×Int):=q5clip.l0 k 0 a0_0 a0_1 0 0
theorem q5clip.mono_l:∀ k,(∀ y0 y1 y2 y3 y4,LeO (q5clip.l0 k y0 y1 y2 y3 y4) (q5clip.l0 (k + 1) y0 y1 y2 y3 y4))
 | 0=>fun _ _ _ _ _ r h=>by simp [q5clip.l0] at h
 | k + 1=>by
  have ih0:=q5clip.mono_l k
  ·intro y0 y1 y2 y3 y4
   unfold q5clip.l0
   repeat' first
   | (with_reducible exact ih0 _ _ _ _ _)
   | (with_reducible exact LeO.refl _)
   | (with_reducible exact LeO.none _)
   | (with_reducible refine LeO.ite ?_ ?_)
   | (with_reducible refine LeO.bind ?_ (fun _=>?_))
   | exact ih0 _ _ _ _ _
   | exact LeO.none _
   | refine LeO.ite ?_ ?_
   | refine LeO.bind ?_ (fun _=>?_)
theorem q5clip.mono:∀ a0 a1 k,LeO (q5clip.f k a0 a1) (q5clip.f (k + 1) a0 a1):=by
 intro a0 a1 k
 have ih0:=q5clip.mono_l k
 unfold q5clip.f
 repeat' first
   | (with_reducible exact ih0 _ _ _ _ _)
   | (with_reducible exact LeO.refl _)
   | (with_reducible exact LeO.none _)
   | (with_reducible refine LeO.ite ?_ ?_)
   | (with_reducible refine LeO.bind ?_ (fun _=>?_))
   | exact ih0 _ _ _ _ _
   | exact LeO.none _
   | refine LeO.ite ?_ ?_
   | refine LeO.bind ?_ (fun _=>?_)
set_option maxHeartbeats 8000000 in
set_option maxRecDepth 100000 in
theorem q5clip.calls (k:Nat) (a0_0:Int) (a0_1:Int) (r1:Int) (r2:Int) (w:World) (h : q5clip.f k a0_0 a0_1=some (r1,r2)) :
  Calls Try.prog 96 #[.agg #[.int .i64 a0_0,.int .i64 a0_1]] w fun e w'=>e=.returned (.agg #[.int .i64 r1,.int .i64 r2])∧Below w.heap.size w w':=by
 have hu103:=Try.underlying103
 have HB:=Z0.mk (Below.refl w.heap.size w)
 have H:(q5clip.l0 k 0 a0_0 a0_1 0 0)=some (r1,r2):=h
 clear h
 have H':=Z0.mk H
 clear H
 go_enter Try.func96,Try.ntmps96
 go_wp2_with (first|((with_reducible refine gate_dst (N:=1) rfl ?_);refine box_event ?hg (N:=1) ?hd (cs:=#[.int .i64 a0_0,.int .i64 a0_1]) (t:=103) ?hr ?_;(case hd=>rfl);(case hg=>rfl);(case hr=>first|(go_simp;done)|(go_simp;rfl));intro gb231 hg w2 hbox hb;have n0_:=Z0.mk (below_step (by repeat (first|(with_reducible first|exact HB.out|apply zbA|apply zbN|apply zb1)|exact HB.out)) hb);have n1_:=Z0.mk (hbox);have n2_:=Z0.mk ((by rw [hg];exact (below_size (by repeat (first|(with_reducible first|exact HB.out|apply zbA|apply zbN|apply zb1)|exact HB.out))) : w.heap.size≤gb231));have n3_:=Z0.mk ((by rw [hg];exact (below_size (by repeat (first|(with_reducible first|exact HB.out|apply zbA|apply zbN|apply zb1)|exact HB.out))) : w.heap.size≤gb231));clear HB;have HB:=n0_;have BK231:=n1_;have GW231:=n2_;have GE231:=n3_;clear n0_ n1_ n2_ n3_;clear hb hbox hg)|((with_reducible refine gate_dst (N:=2) rfl ?_);refine box_event ?hg (N:=2) ?hd (cs:=#[.int .i64 0,.int .i64 0]) (t:=103) ?hr ?_;(case hd=>rfl);(case hg=>rfl);(case hr=>first|(go_simp;done)|(go_simp;rfl));intro gb232 hg w3 hbox hb;have n0_:=Z0.mk (blk_below (g:=gb231) (o:=.cells #[.int .i64 a0_0,.int .i64 a0_1] 103 (0,0)) (by (with_reducible repeat (first|refine zkN ?_ _|refine zkD ?_|refine zkA ?_ _));exact BK231.out) hb);have n1_:=Z0.mk (below_step (by repeat (first|(with_reducible first|exact HB.out|apply zbA|apply zbN|apply zb1|refine zbS ?_ GE231.out)|exact HB.out)) hb);have n2_:=Z0.mk (hbox);have n3_:=Z0.mk ((by rw [hg];exact (below_size (by repeat (first|(with_reducible first|exact HB.out|apply zbA|apply zbN|apply zb1|refine zbS ?_ GE231.out)|exact HB.out))) : w.heap.size≤gb232));have n4_:=Z0.mk ((by rw [hg];exact (below_size (by repeat (first|(with_reducible first|exact HB.out|apply zbA|apply zbN|apply zb1|refine zbS ?_ GE231.out)|exact HB.out))) : w.heap.size≤gb232));have n5_:=Z0.mk ((by rw [hg];exact Nat.ne_of_lt (blk_lt (g:=gb231) (o:=.cells #[.int .i64 a0_0,.int .i64 a0_1] 103 (0,0)) (by (with_reducible repeat (first|refine zkN ?_ _|refine zkD ?_|refine zkA ?_ _));exact BK231.out)) : gb231 ≠ gb232));have n6_:=Z0.mk ((by rw [hg];exact Nat.ne_of_gt (blk_lt (g:=gb231) (o:=.cells #[.int .i64 a0_0,.int .i64 a0_1] 103 (0,0)) (by (with_reducible repeat (first|refine zkN ?_ _|refine zkD ?_|refine zkA ?_ _));exact BK231.out)) : gb232 ≠ gb231));clear BK231;clear HB;have BK231:=n0_;have HB:=n1_;have BK232:=n2_;have GW232:=n3_;have GE232:=n4_;have NB231_232:=n5_;have NB232_231:=n6_;clear n0_ n1_ n2_ n3_ n4_ n5_ n6_;clear hb hbox hg)|((with_reducible refine gate_dst (N:=3) rfl ?_);refine box_event ?hg (N:=3) ?hd (cs:=#[.int .i64 0,.int .i64 0]) (t:=103) ?hr ?_;(case hd=>rfl);(case hg=>rfl);(case hr=>first|(go_simp;done)|(go_simp;rfl));intro gb233 hg w4 hbox hb;have n0_:=Z0.mk (blk_below (g:=gb231) (o:=.cells #[.int .i64 a0_0,.int .i64 a0_1] 103 (0,0)) (by (with_reducible repeat (first|refine zkN ?_ _|refine zkD ?_|refine zkA ?_ _));exact BK231.out) hb);have n1_:=Z0.mk (blk_below (g:=gb232) (o:=.cells #[.int .i64 0,.int .i64 0] 103 (0,0)) (by (with_reducible repeat (first|refine zkN ?_ _|refine zkD ?_|refine zkA ?_ _));exact BK232.out) hb);have n2_:=Z0.mk (below_step (by repeat (first|(with_reducible first|exact HB.out|apply zbA|apply zbN|apply zb1|refine zbS ?_ GE231.out|refine zbS ?_ GE232.out)|exact HB.out)) hb);have n3_:=Z0.mk (hbox);have n4_:=Z0.mk ((by rw [hg];exact (below_size (by repeat (first|(with_reducible first|exact HB.out|apply zbA|apply zbN|apply zb1|refine zbS ?_ GE231.out|refine zbS ?_ GE232.out)|exact HB.out))) : w.heap.size≤gb233));have n5_:=Z0.mk ((by rw [hg];exact (below_size (by repeat (first|(with_reducible first|exact HB.out|apply zbA|apply zbN|apply zb1|refine zbS ?_ GE231.out|refine zbS ?_ GE232.out)|exact HB.out))) : w.heap.size≤gb233));have n6_:=Z0.mk ((by rw [hg];exact Nat.ne_of_lt (blk_lt (g:=gb231) (o:=.cells #[.int .i64 a0_0,.int .i64 a0_1] 103 (0,0)) (by (with_reducible repeat (first|refine zkN ?_ _|refine zkD ?_|refine zkA ?_ _));exact BK231.out)) : gb231 ≠ gb233));have n7_:=Z0.mk ((by rw [hg];exact Nat.ne_of_gt (blk_lt (g:=gb231) (o:=.cells #[.int .i64 a0_0,.int .i64 a0_1] 103 (0,0)) (by (with_reducible repeat (first|refine zkN ?_ _|refine zkD ?_|refine zkA ?_ _));exact BK231.out)) : gb233 ≠ gb231));have n8_:=Z0.mk ((by rw [hg];exact Nat.ne_of_lt (blk_lt (g:=gb232) (o:=.cells #[.int .i64 0,.int .i64 0] 103 (0,0)) (by (with_reducible repeat (first|refine zkN ?_ _|refine zkD ?_|refine zkA ?_ _));exact BK232.out)) : gb232 ≠ gb233));have n9_:=Z0.mk ((by rw [hg];exact Nat.ne_of_gt (blk_lt (g:=gb232) (o:=.cells #[.int .i64 0,.int .i64 0] 103 (0,0)) (by (with_reducible repeat (first|refine zkN ?_ _|refine zkD ?_|refine zkA ?_ _));exact BK232.out)) : gb233 ≠ gb232));clear BK231;clear BK232;clear HB;have BK231:=n0_;have BK232:=n1_;have HB:=n2_;have BK233:=n3_;have GW233:=n4_;have GE233:=n5_;have NB231_233:=n6_;have NB233_231:=n7_;have NB232_233:=n8_;have NB233_232:=n9_;clear n0_ n1_ n2_ n3_ n4_ n5_ n6_ n7_ n8_ n9_;clear hb hbox hg;have hnb5:=NB233_231.out;have hnc5:=NB231_233.out;have hnb6:=NB233_232.out;have hnc6:=NB232_233.out;have hcz7_0 : w4.cell? ⟨gb233,0,none⟩=some (.int .i64 0):=(zkC BK233.out 0).trans rfl;have hcz7_1 : w4.cell? ⟨gb233,1,none⟩=some (.int .i64 0):=(zkC BK233.out 1).trans rfl;have hfz7_0:=zkF BK233.out 0;have hfz7_1:=zkF BK233.out 1))
 go_loopg [4] k (fun kq v4 w'=>∃ (x4_1:Int) (x234000_1:Int) (x234001_1:Int),v4=.int .i64 x4_1∧Z0 (q5clip.l0 kq x4_1 a0_0 a0_1 x234000_1 x234001_1=some (r1,r2))∧Z0 (kq≤k)∧Z0 (w'.heap[gb231]?=some (.cells #[.int .i64 a0_0,.int .i64 a0_1] 103 (0,0)))∧Z0 (w'.heap[gb232]?=some (.cells #[.int .i64 0,.int .i64 0] 103 (0,0)))∧Z0 (w'.heap[gb233]?=some (.cells #[.int .i64 x234000_1,.int .i64 x234001_1] 103 (0,0)))∧Z0 (Below w.heap.size w w'))
 case atStart=>exact ⟨(0),(0),(0),(by first|rfl|(simp;done)|(simp [*];done)),H',⟨Nat.le_refl _⟩,⟨by (with_reducible repeat (first|refine zkN ?_ _|refine zkD ?_|refine zkA ?_ _));refine blk_far ?_ NB231_233.out _;(with_reducible repeat (first|refine zkN ?_ _|refine zkD ?_|refine zkA ?_ _));refine blk_far ?_ NB231_233.out _;(with_reducible repeat (first|refine zkN ?_ _|refine zkD ?_|refine zkA ?_ _));exact BK231.out⟩,⟨by (with_reducible repeat (first|refine zkN ?_ _|refine zkD ?_|refine zkA ?_ _));refine blk_far ?_ NB232_233.out _;(with_reducible repeat (first|refine zkN ?_ _|refine zkD ?_|refine zkA ?_ _));refine blk_far ?_ NB232_233.out _;(with_reducible repeat (first|refine zkN ?_ _|refine zkD ?_|refine zkA ?_ _));exact BK232.out⟩,⟨by (with_reducible repeat (first|refine zkN ?_ _|refine zkD ?_|refine zkA ?_ _));refine blk_put (cs:=#[.int .i64 0,.int .i64 0]) ?_ 1 _ rfl;(with_reducible repeat (first|refine zkN ?_ _|refine zkD ?_|refine zkA ?_ _));refine blk_put (cs:=#[.int .i64 0,.int .i64 0]) ?_ 0 _ rfl;(with_reducible repeat (first|refine zkN ?_ _|refine zkD ?_|refine zkA ?_ _));exact BK233.out⟩,⟨by repeat (first|(with_reducible first|exact HB.out|apply zbA|apply zbN|apply zb1|refine zbS ?_ GE231.out|refine zbS ?_ GE232.out|refine zbS ?_ GE233.out)|exact HB.out)⟩⟩
 case round =>
  clear H'
  try clear p2
  try clear c5
  try clear c6
  try clear hcz7_0
  try clear hcz7_1
  try clear hfz7_0
  try clear hfz7_1
  obtain ⟨x4_1,x234000_1,x234001_1,rfl,HA,HK1,BK231,BK232,BK233,HB⟩:=hrel
  cases gk with
  | zero=>exact absurd HA.out (by simp [q5clip.l0])
  | succ k1 =>
   have H:=HA.out
   clear HA
   simp only [q5clip.l0] at H
   by_cases c8 : x4_1 < 128
   ·rw [if_pos c8] at H
    have c8b0 : decide (x4_1 < 128)=true:=decide_eq_true c8
    clear c8
    replace H:=Option.bind_eq_some_iff.mp H
    obtain ⟨t234,A90,H⟩:=H
    replace H:(if t234=true then (if x234001_1=0 then (q5clip.l0 k1 (wrap64 (x4_1 + 1)) a0_0 a0_1 x4_1 (wrap64 (x234001_1 + 1))) else (q5clip.l0 k1 (wrap64 (x4_1 + 1)) a0_0 a0_1 x234000_1 (wrap64 (x234001_1 + 1)))) else (q5clip.l0 k1 (wrap64 (x4_1 + 1)) a0_0 a0_1 x234000_1 x234001_1))=some (r1,r2):=H
    have A9:=Z0.mk A90
    clear A90
    by_cases c10 : t234=true
    ·subst c10
     have H1:(if x234001_1=0 then (q5clip.l0 k1 (wrap64 (x4_1 + 1)) a0_0 a0_1 x4_1 (wrap64 (x234001_1 + 1))) else (q5clip.l0 k1 (wrap64 (x4_1 + 1)) a0_0 a0_1 x234000_1 (wrap64 (x234001_1 + 1))))=some (r1,r2):=by rw [if_pos rfl] at H;exact H
     clear H
     have H:=H1
     clear H1
     by_cases c11 : x234001_1=0
     ·rw [if_pos c11] at H
      have c11b0:(x234001_1 == 0)=true:=beq_iff_eq.mpr c11
      have c11b1:(x234001_1 != 0)=false:=bne_eq_false_iff_eq.mpr c11
      clear c11
      have H':=Z0.mk H
      clear H
      have hnb12:=NB231_232.out
      have hnc12:=NB232_231.out
      have hnb13:=NB231_233.out
      have hnc13:=NB233_231.out
      have hcz14_0 : wr.cell? ⟨gb231,0,none⟩=some (.int .i64 a0_0):=(zkC BK231.out 0).trans rfl
      have hcz14_1 : wr.cell? ⟨gb231,1,none⟩=some (.int .i64 a0_1):=(zkC BK231.out 1).trans rfl
      have hfz14_0:=zkF BK231.out 0
      have hfz14_1:=zkF BK231.out 1
      go_wp2_with (first|((with_reducible refine gate_callee (f:=122) rfl ?_);refine goesL_ (some 12) rfl rfl Try.func122 (by kernel_rfl) rfl #[.agg #[.int .i64 a0_0,.int .i64 a0_1],.int .i64 x4_1] rfl (by (try simp only [List.map_toArray,List.map_cons,List.map_nil]);first|done|rfl|(simp only [List.length_drop,List.length_take];rfl)) ?_;(with_reducible refine (q5holds.calls a0_0 a0_1 x4_1 true _ A9.out).mono ?_);rintro e w15 ⟨rfl,hb⟩;refine ⟨_,rfl,?_⟩;have n0_:=Z0.mk (blk_below (g:=gb231) (o:=.cells #[.int .i64 a0_0,.int .i64 a0_1] 103 (0,0)) (by (with_reducible repeat (first|refine zkN ?_ _|refine zkD ?_|refine zkA ?_ _));exact BK231.out) hb);have n1_:=Z0.mk (blk_below (g:=gb232) (o:=.cells #[.int .i64 0,.int .i64 0] 103 (0,0)) (by (with_reducible repeat (first|refine zkN ?_ _|refine zkD ?_|refine zkA ?_ _));exact BK232.out) hb);have n2_:=Z0.mk (blk_below (g:=gb233) (o:=.cells #[.int .i64 x234000_1,.int .i64 x234001_1] 103 (0,0)) (by (with_reducible repeat (first|refine zkN ?_ _|refine zkD ?_|refine zkA ?_ _));exact BK233.out) hb);have n3_:=Z0.mk (below_step (by repeat (first|(with_reducible first|exact HB.out|apply zbA|apply zbN|apply zb1|refine zbS ?_ GE231.out|refine zbS ?_ GE232.out|refine zbS ?_ GE233.out)|exact HB.out)) hb);clear BK231;clear BK232;clear BK233;clear HB;have BK231:=n0_;have BK232:=n1_;have BK233:=n2_;have HB:=n3_;clear n0_ n1_ n2_ n3_;(try clear hb);(try clear hb2);(try clear hk);(try clear hi);have hnb16:=NB233_232.out;have hnc16:=NB232_233.out;have hcz17_0 : w15.cell? ⟨gb233,0,none⟩=some (.int .i64 x234000_1):=(zkC BK233.out 0).trans rfl;have hcz17_1 : w15.cell? ⟨gb233,1,none⟩=some (.int .i64 x234001_1):=(zkC BK233.out 1).trans rfl;have hfz17_0:=zkF BK233.out 0;have hfz17_1:=zkF BK233.out 1))
      go_roundg k1
      case measure=>have:=HK1.out;omega
      case rel=>exact ⟨(wrap64 (x4_1 + 1)),(x4_1),(wrap64 (x234001_1 + 1)),(by first|rfl|(simp;done)|(simp [*];done)),H',⟨by have:=HK1.out;omega⟩,⟨by (with_reducible repeat (first|refine zkN ?_ _|refine zkD ?_|refine zkA ?_ _));refine blk_far ?_ NB231_233.out _;(with_reducible repeat (first|refine zkN ?_ _|refine zkD ?_|refine zkA ?_ _));refine blk_far ?_ NB231_233.out _;(with_reducible repeat (first|refine zkN ?_ _|refine zkD ?_|refine zkA ?_ _));exact BK231.out⟩,⟨by (with_reducible repeat (first|refine zkN ?_ _|refine zkD ?_|refine zkA ?_ _));refine blk_far ?_ NB232_233.out _;(with_reducible repeat (first|refine zkN ?_ _|refine zkD ?_|refine zkA ?_ _));refine blk_far ?_ NB232_233.out _;(with_reducible repeat (first|refine zkN ?_ _|refine zkD ?_|refine zkA ?_ _));exact BK232.out⟩,⟨by (with_reducible repeat (first|refine zkN ?_ _|refine zkD ?_|refine zkA ?_ _));refine blk_put (cs:=#[.int .i64 x4_1,.int .i64 x234001_1]) ?_ 1 _ rfl;(with_reducible repeat (first|refine zkN ?_ _|refine zkD ?_|refine zkA ?_ _));refine blk_put (cs:=#[.int .i64 x234000_1,.int .i64 x234001_1]) ?_ 0 _ rfl;(with_reducible repeat (first|refine zkN ?_ _|refine zkD ?_|refine zkA ?_ _));exact BK233.out⟩,⟨by repeat (first|(with_reducible first|exact HB.out|apply zbA|apply zbN|apply zb1|refine zbS ?_ GE231.out|refine zbS ?_ GE232.out|refine zbS ?_ GE233.out)|exact HB.out)⟩⟩
     rw [if_neg c11] at H
     have c11b0:(x234001_1 == 0)=false:=beq_eq_false_iff_ne.mpr c11
     have c11b1:(x234001_1 != 0)=true:=bne_iff_ne.mpr c11
     have H':=Z0.mk H
     clear H
     have hnb18:=NB231_232.out
     have hnc18:=NB232_231.out
     have hnb19:=NB231_233.out
     have hnc19:=NB233_231.out
     have hcz20_0 : wr.cell? ⟨gb231,0,none⟩=some (.int .i64 a0_0):=(zkC BK231.out 0).trans rfl
     have hcz20_1 : wr.cell? ⟨gb231,1,none⟩=some (.int .i64 a0_1):=(zkC BK231.out 1).trans rfl
     have hfz20_0:=zkF BK231.out 0
     have hfz20_1:=zkF BK231.out 1
     go_wp2_with (first|((with_reducible refine gate_callee (f:=122) rfl ?_);refine goesL_ (some 12) rfl rfl Try.func122 (by kernel_rfl) rfl #[.agg #[.int .i64 a0_0,.int .i64 a0_1],.int .i64 x4_1] rfl (by (try simp only [List.map_toArray,List.map_cons,List.map_nil]);first|done|rfl|(simp only [List.length_drop,List.length_take];rfl)) ?_;(with_reducible refine (q5holds.calls a0_0 a0_1 x4_1 true _ A9.out).mono ?_);rintro e w21 ⟨rfl,hb⟩;refine ⟨_,rfl,?_⟩;have n0_:=Z0.mk (blk_below (g:=gb231) (o:=.cells #[.int .i64 a0_0,.int .i64 a0_1] 103 (0,0)) (by (with_reducible repeat (first|refine zkN ?_ _|refine zkD ?_|refine zkA ?_ _));exact BK231.out) hb);have n1_:=Z0.mk (blk_below (g:=gb232) (o:=.cells #[.int .i64 0,.int .i64 0] 103 (0,0)) (by (with_reducible repeat (first|refine zkN ?_ _|refine zkD ?_|refine zkA ?_ _));exact BK232.out) hb);have n2_:=Z0.mk (blk_below (g:=gb233) (o:=.cells #[.int .i64 x234000_1,.int .i64 x234001_1] 103 (0,0)) (by (with_reducible repeat (first|refine zkN ?_ _|refine zkD ?_|refine zkA ?_ _));exact BK233.out) hb);have n3_:=Z0.mk (below_step (by repeat (first|(with_reducible first|exact HB.out|apply zbA|apply zbN|apply zb1|refine zbS ?_ GE231.out|refine zbS ?_ GE232.out|refine zbS ?_ GE233.out)|exact HB.out)) hb);clear BK231;clear BK232;clear BK233;clear HB;have BK231:=n0_;have BK232:=n1_;have BK233:=n2_;have HB:=n3_;clear n0_ n1_ n2_ n3_;(try clear hb);(try clear hb2);(try clear hk);(try clear hi);have hnb22:=NB233_232.out;have hnc22:=NB232_233.out;have hcz23_0 : w21.cell? ⟨gb233,0,none⟩=some (.int .i64 x234000_1):=(zkC BK233.out 0).trans rfl;have hcz23_1 : w21.cell? ⟨gb233,1,none⟩=some (.int .i64 x234001_1):=(zkC BK233.out 1).trans rfl;have hfz23_0:=zkF BK233.out 0;have hfz23_1:=zkF BK233.out 1))
     go_roundg k1
     case measure=>have:=HK1.out;omega
     case rel=>exact ⟨(wrap64 (x4_1 + 1)),(x234000_1),(wrap64 (x234001_1 + 1)),(by first|rfl|(simp;done)|(simp [*];done)),H',⟨by have:=HK1.out;omega⟩,⟨by (with_reducible repeat (first|refine zkN ?_ _|refine zkD ?_|refine zkA ?_ _));refine blk_far ?_ NB231_233.out _;(with_reducible repeat (first|refine zkN ?_ _|refine zkD ?_|refine zkA ?_ _));exact BK231.out⟩,⟨by (with_reducible repeat (first|refine zkN ?_ _|refine zkD ?_|refine zkA ?_ _));refine blk_far ?_ NB232_233.out _;(with_reducible repeat (first|refine zkN ?_ _|refine zkD ?_|refine zkA ?_ _));exact BK232.out⟩,⟨by (with_reducible repeat (first|refine zkN ?_ _|refine zkD ?_|refine zkA ?_ _));refine blk_put (cs:=#[.int .i64 x234000_1,.int .i64 x234001_1]) ?_ 1 _ rfl;(with_reducible repeat (first|refine zkN ?_ _|refine zkD ?_|refine zkA ?_ _));exact BK233.out⟩,⟨by repeat (first|(with_reducible first|exact HB.out|apply zbA|apply zbN|apply zb1|refine zbS ?_ GE231.out|refine zbS ?_ GE232.out|refine zbS ?_ GE233.out)|exact HB.out)⟩⟩
    replace c10:=Bool.eq_false_iff.mpr c10
    subst c10
    have H1:(q5clip.l0 k1 (wrap64 (x4_1 + 1)) a0_0 a0_1 x234000_1 x234001_1)=some (r1,r2):=by rw [if_neg (show ¬ (false=true) by decide)] at H;exact H
    clear H
    have H:=H1
    clear H1
    have H':=Z0.mk H
    clear H
    have hnb24:=NB231_232.out
    have hnc24:=NB232_231.out
    have hnb25:=NB231_233.out
    have hnc25:=NB233_231.out
    have hcz26_0 : wr.cell? ⟨gb231,0,none⟩=some (.int .i64 a0_0):=(zkC BK231.out 0).trans rfl
    have hcz26_1 : wr.cell? ⟨gb231,1,none⟩=some (.int .i64 a0_1):=(zkC BK231.out 1).trans rfl
    have hfz26_0:=zkF BK231.out 0
    have hfz26_1:=zkF BK231.out 1
    go_wp2_with (first|((with_reducible refine gate_callee (f:=122) rfl ?_);refine goesL_ (some 12) rfl rfl Try.func122 (by kernel_rfl) rfl #[.agg #[.int .i64 a0_0,.int .i64 a0_1],.int .i64 x4_1] rfl (by (try simp only [List.map_toArray,List.map_cons,List.map_nil]);first|done|rfl|(simp only [List.length_drop,List.length_take];rfl)) ?_;(with_reducible refine (q5holds.calls a0_0 a0_1 x4_1 false _ A9.out).mono ?_);rintro e w27 ⟨rfl,hb⟩;refine ⟨_,rfl,?_⟩;have n0_:=Z0.mk (blk_below (g:=gb231) (o:=.cells #[.int .i64 a0_0,.int .i64 a0_1] 103 (0,0)) (by (with_reducible repeat (first|refine zkN ?_ _|refine zkD ?_|refine zkA ?_ _));exact BK231.out) hb);have n1_:=Z0.mk (blk_below (g:=gb232) (o:=.cells #[.int .i64 0,.int .i64 0] 103 (0,0)) (by (with_reducible repeat (first|refine zkN ?_ _|refine zkD ?_|refine zkA ?_ _));exact BK232.out) hb);have n2_:=Z0.mk (blk_below (g:=gb233) (o:=.cells #[.int .i64 x234000_1,.int .i64 x234001_1] 103 (0,0)) (by (with_reducible repeat (first|refine zkN ?_ _|refine zkD ?_|refine zkA ?_ _));exact BK233.out) hb);have n3_:=Z0.mk (below_step (by repeat (first|(with_reducible first|exact HB.out|apply zbA|apply zbN|apply zb1|refine zbS ?_ GE231.out|refine zbS ?_ GE232.out|refine zbS ?_ GE233.out)|exact HB.out)) hb);clear BK231;clear BK232;clear BK233;clear HB;have BK231:=n0_;have BK232:=n1_;have BK233:=n2_;have HB:=n3_;clear n0_ n1_ n2_ n3_;(try clear hb);(try clear hb2);(try clear hk);(try clear hi)))
    go_roundg k1
    case measure=>have:=HK1.out;omega
    case rel=>exact ⟨(wrap64 (x4_1 + 1)),(x234000_1),(x234001_1),(by first|rfl|(simp;done)|(simp [*];done)),H',⟨by have:=HK1.out;omega⟩,⟨by (with_reducible repeat (first|refine zkN ?_ _|refine zkD ?_|refine zkA ?_ _));exact BK231.out⟩,⟨by (with_reducible repeat (first|refine zkN ?_ _|refine zkD ?_|refine zkA ?_ _));exact BK232.out⟩,⟨by (with_reducible repeat (first|refine zkN ?_ _|refine zkD ?_|refine zkA ?_ _));exact BK233.out⟩,⟨by repeat (first|(with_reducible first|exact HB.out|apply zbA|apply zbN|apply zb1|refine zbS ?_ GE231.out|refine zbS ?_ GE232.out|refine zbS ?_ GE233.out)|exact HB.out)⟩⟩
   rw [if_neg c8] at H
   have c8b0 : decide (x4_1 < 128)=false:=decide_eq_false c8
   clear c8
   simp only [Option.some.injEq,Prod.mk.injEq] at H
   obtain ⟨rfl,rfl⟩:=H
   have hnb28:=NB233_231.out
   have hnc28:=NB231_233.out
   have hnb29:=NB233_232.out
   have hnc29:=NB232_233.out
   have hcz30_0 : wr.cell? ⟨gb233,0,none⟩=some (.int .i64 x234000_1):=(zkC BK233.out 0).trans rfl
   have hcz30_1 : wr.cell? ⟨gb233,1,none⟩=some (.int .i64 x234001_1):=(zkC BK233.out 1).trans rfl
   have hfz30_0:=zkF BK233.out 0
   have hfz30_1:=zkF BK233.out 1
   have hnb31:=NB232_231.out
   have hnc31:=NB231_232.out
   have hcz32_0 : wr.cell? ⟨gb232,0,none⟩=some (.int .i64 0):=(zkC BK232.out 0).trans rfl
   have hcz32_1 : wr.cell? ⟨gb232,1,none⟩=some (.int .i64 0):=(zkC BK232.out 1).trans rfl
   have hfz32_0:=zkF BK232.out 0
   have hfz32_1:=zkF BK232.out 1
   go_wp2
   refine bodyPost_ret (results_cell_row rfl _ _ gb232 103 #[.int .i64 x234000_1,.int .i64 x234001_1] (0,0) _ rfl (by (with_reducible repeat (first|refine zkN ?_ _|refine zkD ?_|refine zkA ?_ _));refine blk_put (cs:=#[.int .i64 x234000_1,.int .i64 0]) ?_ 1 _ rfl;(with_reducible repeat (first|refine zkN ?_ _|refine zkD ?_|refine zkA ?_ _));refine blk_put (cs:=#[.int .i64 0,.int .i64 0]) ?_ 0 _ rfl;(with_reducible repeat (first|refine zkN ?_ _|refine zkD ?_|refine zkA ?_ _));exact BK232.out) Try.underlying103 rfl (by kernel_rfl)) rfl ?_
   exact ⟨by first|rfl|(simp [errW_none,errW_some] <;> rfl)|(simp [*,errW_none,errW_some] <;> rfl),by repeat (first|(with_reducible first|exact HB.out|apply zbA|apply zbN|apply zb1|refine zbS ?_ GE231.out|refine zbS ?_ GE232.out|refine zbS ?_ GE233.out)|exact HB.out)⟩
end Go.Proofs.Ytegefemkmdlmaaa.P
