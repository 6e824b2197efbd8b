import Derived.Test.YtegefemkmdlmaaaF0
import Derived.Test.YtegefemkmdlmaaaF76
import Derived.Test.YtegefemkmdlmaaaF77
import Derived.Test.YtegefemkmdlmaaaF88
import Derived.Test.YtegefemkmdlmaaaF102
import Derived.Test.YtegefemkmdlmaaaF121
namespace Go.Proofs.Ytegefemkmdlmaaa.P
open Go.RowKit Go.Proofs.YtegefemkmdlmaaaW.PrintWords Go.Proofs.YtegefemkmdlmaaaW.PrintLast Go.Proofs.YtegefemkmdlmaaaW.PrintMore
attribute [local go_sem] max2_int min2_int max_two min_two max_three min_three max_four min_four
set_option linter.unusedVariables false
set_option linter.unusedSimpArgs false
mutual
def q7Decode.j0:Nat→ByteArray→Int→Bool→Option (Int×Int×ByteArray×ByteArray×(List (S103))×Int)
 | 0,_,_,_=>none
 | k + 1,x0,x1,x25=>if x25=true then (some (0,0,(⟨#[]⟩:ByteArray),(⟨#[]⟩:ByteArray),([]:List (S103)),11)) else ((q1Zero.f k x0).bind fun t989=>(if t989=true then (some (0,0,(⟨#[]⟩:ByteArray),(⟨#[]⟩:ByteArray),([]:List (S103)),0)) else ((q1ReadCount.f k x0 0 1099511627776).bind fun bt991=>((q1ReadCount.f k bt991.2.1 bt991.2.2 1099511627776).bind fun bt994=>((q1ReadText.f k bt994.2.1 bt994.2.2 31).bind fun bt997=>((q1ReadText.f k bt997.2.1 bt997.2.2 400).bind fun bt1000=>((q1ReadCount.f k bt1000.2.1 bt1000.2.2 16).bind fun bt1003=>(q7Decode.l0 k x0 x1 bt1003.1 0 bt1003.2.1 bt1003.2.2 bt991.1 bt994.1 bt997.1 bt1000.1 ([]:List (S103))))))))))
def q7Decode.l0:Nat→ByteArray→Int→Int→Int→ByteArray→Int→Int→Int→ByteArray→ByteArray→List (S103)→Option (Int×Int×ByteArray×ByteArray×(List (S103))×Int)
 | 0,_,_,_,_,_,_,_,_,_,_,_=>none
 | k + 1,x0,x1,x11,x13,x991000,x991001,x1007000,x1007001,x1007002,x1007003,x1007004=>if x13 < x11 then ((q1ReadCount.f k x991000 x991001 127).bind fun bt1007=>((q1ReadCount.f k bt1007.2.1 bt1007.2.2 128).bind fun bt1011=>(if x1007004.length < 8796093022208 then (q7Decode.l0 k x0 x1 x11 (wrap64 (x13 + 1)) bt1011.2.1 bt1011.2.2 x1007000 x1007001 x1007002 x1007003 (x1007004++[(⟨bt1007.1,bt1011.1⟩:S103)])) else (none)))) else (if x991001=0 then ((q7Encode.f k x1007000 x1007001 x1007002 x1007003 x1007004 x1).bind fun t1018=>(if t1018.toList=x0.toList then (some (x1007000,x1007001,x1007002,x1007003,x1007004,0)) else (some (0,0,(⟨#[]⟩:ByteArray),(⟨#[]⟩:ByteArray),([]:List (S103)),11)))) else (some (0,0,(⟨#[]⟩:ByteArray),(⟨#[]⟩:ByteArray),([]:List (S103)),11)))
end
def q7Decode.f (k:Nat) (a0:ByteArray) (a1:Int):Option (Int×Int×ByteArray×ByteArray×(List (S103))×Int):=if (a0.size:Int)=1024 then ((q7valid.f a1).bind fun t988=>(q7Decode.j0 k a0 a1 (!t988))) else (q7Decode.j0 k a0 a1 true)
theorem q7Decode.mono_l:∀ k,(∀ y0 y1 y2,LeO (q7Decode.j0 k y0 y1 y2) (q7Decode.j0 (k + 1) y0 y1 y2))∧(∀ y0 y1 y2 y3 y4 y5 y6 y7 y8 y9 y10,LeO (q7Decode.l0 k y0 y1 y2 y3 y4 y5 y6 y7 y8 y9 y10) (q7Decode.l0 (k + 1) y0 y1 y2 y3 y4 y5 y6 y7 y8 y9 y10))
 | 0=>⟨fun _ _ _ r h=>by simp [q7Decode.j0] at h,fun _ _ _ _ _ _ _ _ _ _ _ r h=>by simp [q7Decode.l0] at h⟩
 | k + 1=>by
  obtain ⟨ih0,ih1⟩:=q7Decode.mono_l k
  refine ⟨?_,?_⟩
  ·intro y0 y1 y2
   unfold q7Decode.j0
   repeat' first
   | (with_reducible exact ih0 _ _ _)
   | (with_reducible exact ih1 _ _ _ _ _ _ _ _ _ _ _)
   | (with_reducible exact q1ReadCount.mono _ _ _ _)
   | (with_reducible exact q1ReadText.mono _ _ _ _)
   | (with_reducible exact q1Zero.mono _ _)
   | (with_reducible exact q7Encode.mono _ _ _ _ _ _ _)
   | (with_reducible exact LeO.refl _)
   | (with_reducible exact LeO.none _)
   | (with_reducible refine LeO.ite ?_ ?_)
   | (with_reducible refine LeO.bind ?_ (fun _=>?_))
   | exact ih0 _ _ _
   | exact ih1 _ _ _ _ _ _ _ _ _ _ _
   | exact q1ReadCount.mono _ _ _ _
   | exact q1ReadText.mono _ _ _ _
   | exact q1Zero.mono _ _
   | exact q7Encode.mono _ _ _ _ _ _ _
   | exact LeO.none _
   | refine LeO.ite ?_ ?_
   | refine LeO.bind ?_ (fun _=>?_)
  intro y0 y1 y2 y3 y4 y5 y6 y7 y8 y9 y10
  unfold q7Decode.l0
  repeat' first
  | (with_reducible exact ih0 _ _ _)
  | (with_reducible exact ih1 _ _ _ _ _ _ _ _ _ _ _)
  | (with_reducible exact q1ReadCount.mono _ _ _ _)
  | (with_reducible exact q1ReadText.mono _ _ _ _)
  | (with_reducible exact q1Zero.mono _ _)
  | (with_reducible exact q7Encode.mono _ _ _ _ _ _ _)
  | (with_reducible exact LeO.refl _)
  | (with_reducible exact LeO.none _)
  | (with_reducible refine LeO.ite ?_ ?_)
  | (with_reducible refine LeO.bind ?_ (fun _=>?_))
  | exact ih0 _ _ _
  | exact ih1 _ _ _ _ _ _ _ _ _ _ _
  | exact q1ReadCount.mono _ _ _ _
  | exact q1ReadText.mono _ _ _ _
  | exact q1Zero.mono _ _
  | exact q7Encode.mono _ _ _ _ _ _ _
  | exact LeO.none _
  | refine LeO.ite ?_ ?_
  | refine LeO.bind ?_ (fun _=>?_)
theorem q7Decode.mono:∀ a0 a1 k,LeO (q7Decode.f k a0 a1) (q7Decode.f (k + 1) a0 a1):=by
 intro a0 a1 k
 obtain ⟨ih0,ih1⟩:=q7Decode.mono_l k
 unfold q7Decode.f
 repeat' first
   | (with_reducible exact ih0 _ _ _)
   | (with_reducible exact ih1 _ _ _ _ _ _ _ _ _ _ _)
   | (with_reducible exact q1ReadCount.mono _ _ _ _)
   | (with_reducible exact q1ReadText.mono _ _ _ _)
   | (with_reducible exact q1Zero.mono _ _)
   | (with_reducible exact q7Encode.mono _ _ _ _ _ _ _)
   | (with_reducible exact LeO.refl _)
   | (with_reducible exact LeO.none _)
   | (with_reducible refine LeO.ite ?_ ?_)
   | (with_reducible refine LeO.bind ?_ (fun _=>?_))
   | exact ih0 _ _ _
   | exact ih1 _ _ _ _ _ _ _ _ _ _ _
   | exact q1ReadCount.mono _ _ _ _
   | exact q1ReadText.mono _ _ _ _
   | exact q1Zero.mono _ _
   | exact q7Encode.mono _ _ _ _ _ _ _
   | exact LeO.none _
   | refine LeO.ite ?_ ?_
   | refine LeO.bind ?_ (fun _=>?_)
set_option maxHeartbeats 8000000 in
set_option maxRecDepth 100000 in
theorem q7Decode.calls (k:Nat) (a0:ByteArray) (a1:Int) (r1:Int) (r2:Int) (r3:ByteArray) (r4:ByteArray) (r5:List (S103)) (r6:Int) (w:World) (h : q7Decode.f k a0 a1=some (r1,r2,r3,r4,r5,r6)) :
  Calls Try.prog 92 #[.string a0,.int .i64 a1] w fun e w'=>∃ v4_:Value,e=.returned (.tuple #[.agg #[.int .i64 r1,.int .i64 r2,.string r3,.string r4,v4_],.int .i64 r6])∧Kd.R k103 103 w' w.heap.size (fun _=>True) v4_ r5∧Below w.heap.size w w':=by
 have hu55:=Try.underlying55
 have hu69:=Try.underlying69
 have hu103:=Try.underlying103
 have HB:=Z0.mk (Below.refl w.heap.size w)
 have H:(if (a0.size:Int)=1024 then ((q7valid.f a1).bind fun t988=>(q7Decode.j0 k a0 a1 (!t988))) else (q7Decode.j0 k a0 a1 true))=some (r1,r2,r3,r4,r5,r6):=h
 clear h
 have HC3:=Z0.mk H
 clear H
 go_enter Try.func92,Try.ntmps92
 go_upto_region 1 with (first|((with_reducible refine gate_dst (N:=4) rfl ?_);refine box_event ?hg (N:=4) ?hd (cs:=#[.int .i64 0,.int .i64 0,.string (⟨#[]⟩:ByteArray),.string (⟨#[]⟩:ByteArray),.slice none 0 0]) (t:=55) ?hr ?_;(case hd=>rfl);(case hg=>rfl);(case hr=>first|(go_simp;done)|(go_simp;rfl));intro gb987 hg w4 hbox hb;have n0_:=Z0.mk (below_step (by repeat (first|(with_reducible first|exact HB.out|apply zbA|apply zbN|apply zb1)|exact HB.out)) hb);have n1_:=Z0.mk (hbox);have n2_:=Z0.mk ((by rw [hg];exact (below_size (by repeat (first|(with_reducible first|exact HB.out|apply zbA|apply zbN|apply zb1)|exact HB.out))) : w.heap.size≤gb987));have n3_:=Z0.mk ((by rw [hg];exact (below_size (by repeat (first|(with_reducible first|exact HB.out|apply zbA|apply zbN|apply zb1)|exact HB.out))) : w.heap.size≤gb987));clear HB;have HB:=n0_;have BK987:=n1_;have GW987:=n2_;have GE987:=n3_;clear n0_ n1_ n2_ n3_;clear hb hbox hg))
 (try simp only [Act.put,List.setIfInBounds_toArray,List.set_cons_zero,List.set_cons_succ])
 go_cut [25] (fun v25 wc=>∃ (kq:Nat) (x25_2:Bool),v25=.bool x25_2∧Z0 (q7Decode.j0 kq a0 a1 x25_2=some (r1,r2,r3,r4,r5,r6))∧Z0 (kq≤k)∧Z0 (wc.heap[gb987]?=some (.cells #[.int .i64 0,.int .i64 0,.string (⟨#[]⟩:ByteArray),.string (⟨#[]⟩:ByteArray),(.slice none 0 0)] 55 (0,0)))∧Z0 (Below w.heap.size w wc))
 case first =>
  have H:=HC3.out
  clear HC3
  by_cases c5:(a0.size:Int)=1024
  ·rw [if_pos c5] at H
   have c5b0:((a0.size:Int) == 1024)=true:=beq_iff_eq.mpr c5
   have c5b1:((a0.size:Int) != 1024)=false:=bne_eq_false_iff_eq.mpr c5
   clear c5
   (first|rw [c5b0]|(simp only [i64_w,i32_w];rw [c5b0])|skip)
   replace H:=Option.bind_eq_some_iff.mp H
   obtain ⟨t988,A60,H⟩:=H
   replace H:(q7Decode.j0 k a0 a1 (!t988))=some (r1,r2,r3,r4,r5,r6):=H
   have A6:=Z0.mk A60
   clear A60
   have H':=Z0.mk H
   clear H
   go_wp2_with (first|(go_at_call 102;(with_reducible refine (q7valid.calls a1 t988 _ A6.out).mono ?_);rintro e w' ⟨rfl,⟨nd,rfl⟩⟩))
   go_meet
   case rel=>exact ⟨_,(!t988),(by first|rfl|(simp;done)|(simp [*];done)),H',⟨by first|omega|exact Nat.le_refl _⟩,⟨by (with_reducible repeat (first|refine zkN ?_ _|refine zkD ?_|refine zkA ?_ _));exact BK987.out⟩,⟨by repeat (first|(with_reducible first|exact HB.out|apply zbA|apply zbN|apply zb1|refine zbS ?_ GE987.out)|exact HB.out)⟩⟩
  rw [if_neg c5] at H
  have c5b0:((a0.size:Int) == 1024)=false:=beq_eq_false_iff_ne.mpr c5
  have c5b1:((a0.size:Int) != 1024)=true:=bne_iff_ne.mpr c5
  (first|rw [c5b0]|(simp only [i64_w,i32_w];rw [c5b0])|skip)
  have H':=Z0.mk H
  clear H
  go_wp2
  go_meet
  case rel=>exact ⟨_,(true),(by first|rfl|(simp;done)|(simp [*];done)),H',⟨by first|omega|exact Nat.le_refl _⟩,⟨by (with_reducible repeat (first|refine zkN ?_ _|refine zkD ?_|refine zkA ?_ _));exact BK987.out⟩,⟨by repeat (first|(with_reducible first|exact HB.out|apply zbA|apply zbN|apply zb1|refine zbS ?_ GE987.out)|exact HB.out)⟩⟩
 case rest =>
  clear HC3
  try clear p2
  try clear c5
  try clear c5b0
  try clear c5b1
  obtain ⟨kq,x25_2,rfl,HA,HJ2,BK987,HB⟩:=hcut
  cases kq with
  | zero=>exact absurd HA.out (by simp [q7Decode.j0])
  | succ kj2 =>
   have H:=HA.out
   clear HA
   simp only [q7Decode.j0] at H
   by_cases c7 : x25_2=true
   ·subst c7
    have H1:(some (0,0,(⟨#[]⟩:ByteArray),(⟨#[]⟩:ByteArray),([]:List (S103)),11))=some (r1,r2,r3,r4,r5,r6):=by rw [if_pos rfl] at H;exact H
    clear H
    have H:=H1
    clear H1
    simp only [Option.some.injEq,Prod.mk.injEq] at H
    obtain ⟨rfl,rfl,rfl,rfl,rfl,rfl⟩:=H
    have hcz8_0 : wc.cell? ⟨gb987,0,none⟩=some (.int .i64 0):=(zkC BK987.out 0).trans rfl
    have hcz8_1 : wc.cell? ⟨gb987,1,none⟩=some (.int .i64 0):=(zkC BK987.out 1).trans rfl
    have hcz8_2 : wc.cell? ⟨gb987,2,none⟩=some (.string (⟨#[]⟩:ByteArray)):=(zkC BK987.out 2).trans rfl
    have hcz8_3 : wc.cell? ⟨gb987,3,none⟩=some (.string (⟨#[]⟩:ByteArray)):=(zkC BK987.out 3).trans rfl
    have hcz8_4 : wc.cell? ⟨gb987,4,none⟩=some (.slice none 0 0):=(zkC BK987.out 4).trans rfl
    have hfz8_0:=zkF BK987.out 0
    have hfz8_1:=zkF BK987.out 1
    have hfz8_2:=zkF BK987.out 2
    have hfz8_3:=zkF BK987.out 3
    have hfz8_4:=zkF BK987.out 4
    go_wp2
    refine bodyPost_ret (results_ct rfl _ _ gb987 55 #[.int .i64 0,.int .i64 0,.string (⟨#[]⟩:ByteArray),.string (⟨#[]⟩:ByteArray),.slice none 0 0] (0,0) _ rfl (by (with_reducible repeat (first|refine zkN ?_ _|refine zkD ?_|refine zkA ?_ _));refine blk_put (cs:=#[.int .i64 0,.int .i64 0,.string (⟨#[]⟩:ByteArray),.string (⟨#[]⟩:ByteArray),.slice none 0 0]) ?_ 4 _ rfl;(with_reducible repeat (first|refine zkN ?_ _|refine zkD ?_|refine zkA ?_ _));refine blk_put (cs:=#[.int .i64 0,.int .i64 0,.string (⟨#[]⟩:ByteArray),.string (⟨#[]⟩:ByteArray),.slice none 0 0]) ?_ 3 _ rfl;(with_reducible repeat (first|refine zkN ?_ _|refine zkD ?_|refine zkA ?_ _));refine blk_put (cs:=#[.int .i64 0,.int .i64 0,.string (⟨#[]⟩:ByteArray),.string (⟨#[]⟩:ByteArray),.slice none 0 0]) ?_ 2 _ rfl;(with_reducible repeat (first|refine zkN ?_ _|refine zkD ?_|refine zkA ?_ _));refine blk_put (cs:=#[.int .i64 0,.int .i64 0,.string (⟨#[]⟩:ByteArray),.string (⟨#[]⟩:ByteArray),.slice none 0 0]) ?_ 1 _ rfl;(with_reducible repeat (first|refine zkN ?_ _|refine zkD ?_|refine zkA ?_ _));refine blk_put (cs:=#[.int .i64 0,.int .i64 0,.string (⟨#[]⟩:ByteArray),.string (⟨#[]⟩:ByteArray),.slice none 0 0]) ?_ 0 _ rfl;(with_reducible repeat (first|refine zkN ?_ _|refine zkD ?_|refine zkA ?_ _));exact BK987.out) Try.underlying55 rfl (by kernel_rfl)) rfl ?_
    exact ⟨_,by first|rfl|(simp [errW_none,errW_some] <;> rfl)|(simp [*,errW_none,errW_some] <;> rfl),by first|exact Kd.R_nil _ _ _ _ _|exact Kd.N_nil _ _ _ _ _|exact Kd.V_nil _ _ _ _ _|exact Kd.Q_nil _ _ _ _ _|exact Kd.S_nil _ _ _ _ _,by repeat (first|(with_reducible first|exact HB.out|apply zbA|apply zbN|apply zb1|refine zbS ?_ GE987.out)|exact HB.out)⟩
   replace c7:=Bool.eq_false_iff.mpr c7
   subst c7
   have H1:((q1Zero.f kj2 a0).bind fun t989=>(if t989=true then (some (0,0,(⟨#[]⟩:ByteArray),(⟨#[]⟩:ByteArray),([]:List (S103)),0)) else ((q1ReadCount.f kj2 a0 0 1099511627776).bind fun bt991=>((q1ReadCount.f kj2 bt991.2.1 bt991.2.2 1099511627776).bind fun bt994=>((q1ReadText.f kj2 bt994.2.1 bt994.2.2 31).bind fun bt997=>((q1ReadText.f kj2 bt997.2.1 bt997.2.2 400).bind fun bt1000=>((q1ReadCount.f kj2 bt1000.2.1 bt1000.2.2 16).bind fun bt1003=>(q7Decode.l0 kj2 a0 a1 bt1003.1 0 bt1003.2.1 bt1003.2.2 bt991.1 bt994.1 bt997.1 bt1000.1 ([]:List (S103))))))))))=some (r1,r2,r3,r4,r5,r6):=by rw [if_neg (show ¬ (false=true) by decide)] at H;exact H
   clear H
   have H:=H1
   clear H1
   replace H:=Option.bind_eq_some_iff.mp H
   obtain ⟨t989,A90,H⟩:=H
   replace H:(if t989=true then (some (0,0,(⟨#[]⟩:ByteArray),(⟨#[]⟩:ByteArray),([]:List (S103)),0)) else ((q1ReadCount.f kj2 a0 0 1099511627776).bind fun bt991=>((q1ReadCount.f kj2 bt991.2.1 bt991.2.2 1099511627776).bind fun bt994=>((q1ReadText.f kj2 bt994.2.1 bt994.2.2 31).bind fun bt997=>((q1ReadText.f kj2 bt997.2.1 bt997.2.2 400).bind fun bt1000=>((q1ReadCount.f kj2 bt1000.2.1 bt1000.2.2 16).bind fun bt1003=>(q7Decode.l0 kj2 a0 a1 bt1003.1 0 bt1003.2.1 bt1003.2.2 bt991.1 bt994.1 bt997.1 bt1000.1 ([]:List (S103)))))))))=some (r1,r2,r3,r4,r5,r6):=H
   have A9:=Z0.mk A90
   clear A90
   by_cases c10 : t989=true
   ·subst c10
    have H1:(some (0,0,(⟨#[]⟩:ByteArray),(⟨#[]⟩:ByteArray),([]:List (S103)),0))=some (r1,r2,r3,r4,r5,r6):=by rw [if_pos rfl] at H;exact H
    clear H
    have H:=H1
    clear H1
    simp only [Option.some.injEq,Prod.mk.injEq] at H
    obtain ⟨rfl,rfl,rfl,rfl,rfl,rfl⟩:=H
    go_wp2_with (first|((with_reducible refine gate_callee (f:=121) rfl ?_);refine goesL_ (some 28) rfl rfl Try.func121 (by kernel_rfl) rfl #[.string a0] rfl (by (try simp only [List.map_toArray,List.map_cons,List.map_nil]);first|done|rfl|(simp only [List.length_drop,List.length_take];rfl)) ?_;(with_reducible refine (q1Zero.calls kj2 a0 true _ A9.out).mono ?_);rintro e w' ⟨rfl,⟨nd,rfl⟩⟩;refine ⟨_,rfl,?_⟩;(try (rw [drewN_self wc];generalize hq_:World.drewN wc _=wc;have n0_:Z0 (wc.heap[gb987]?=some (.cells #[.int .i64 0,.int .i64 0,.string (⟨#[]⟩:ByteArray),.string (⟨#[]⟩:ByteArray),.slice none 0 0] 55 (0,0))):=⟨by rw [← hq_];exact (by (with_reducible repeat (first|refine zkN ?_ _|refine zkD ?_|refine zkA ?_ _));exact BK987.out)⟩;have n1_:Z0 (Below w.heap.size w wc):=⟨by rw [← hq_];exact (by repeat (first|(with_reducible first|exact HB.out|apply zbA|apply zbN|apply zb1|refine zbS ?_ GE987.out)|exact HB.out))⟩;clear BK987 HB hq_;have BK987:=n0_;have HB:=n1_;clear n0_ n1_));have hcz11_0 : wc.cell? ⟨gb987,0,none⟩=some (.int .i64 0):=(zkC BK987.out 0).trans rfl;have hcz11_1 : wc.cell? ⟨gb987,1,none⟩=some (.int .i64 0):=(zkC BK987.out 1).trans rfl;have hcz11_2 : wc.cell? ⟨gb987,2,none⟩=some (.string (⟨#[]⟩:ByteArray)):=(zkC BK987.out 2).trans rfl;have hcz11_3 : wc.cell? ⟨gb987,3,none⟩=some (.string (⟨#[]⟩:ByteArray)):=(zkC BK987.out 3).trans rfl;have hcz11_4 : wc.cell? ⟨gb987,4,none⟩=some (.slice none 0 0):=(zkC BK987.out 4).trans rfl;have hfz11_0:=zkF BK987.out 0;have hfz11_1:=zkF BK987.out 1;have hfz11_2:=zkF BK987.out 2;have hfz11_3:=zkF BK987.out 3;have hfz11_4:=zkF BK987.out 4))
    refine bodyPost_ret (results_ct rfl _ _ gb987 55 #[.int .i64 0,.int .i64 0,.string (⟨#[]⟩:ByteArray),.string (⟨#[]⟩:ByteArray),.slice none 0 0] (0,0) _ rfl (by (with_reducible repeat (first|refine zkN ?_ _|refine zkD ?_|refine zkA ?_ _));refine blk_put (cs:=#[.int .i64 0,.int .i64 0,.string (⟨#[]⟩:ByteArray),.string (⟨#[]⟩:ByteArray),.slice none 0 0]) ?_ 4 _ rfl;(with_reducible repeat (first|refine zkN ?_ _|refine zkD ?_|refine zkA ?_ _));refine blk_put (cs:=#[.int .i64 0,.int .i64 0,.string (⟨#[]⟩:ByteArray),.string (⟨#[]⟩:ByteArray),.slice none 0 0]) ?_ 3 _ rfl;(with_reducible repeat (first|refine zkN ?_ _|refine zkD ?_|refine zkA ?_ _));refine blk_put (cs:=#[.int .i64 0,.int .i64 0,.string (⟨#[]⟩:ByteArray),.string (⟨#[]⟩:ByteArray),.slice none 0 0]) ?_ 2 _ rfl;(with_reducible repeat (first|refine zkN ?_ _|refine zkD ?_|refine zkA ?_ _));refine blk_put (cs:=#[.int .i64 0,.int .i64 0,.string (⟨#[]⟩:ByteArray),.string (⟨#[]⟩:ByteArray),.slice none 0 0]) ?_ 1 _ rfl;(with_reducible repeat (first|refine zkN ?_ _|refine zkD ?_|refine zkA ?_ _));refine blk_put (cs:=#[.int .i64 0,.int .i64 0,.string (⟨#[]⟩:ByteArray),.string (⟨#[]⟩:ByteArray),.slice none 0 0]) ?_ 0 _ rfl;(with_reducible repeat (first|refine zkN ?_ _|refine zkD ?_|refine zkA ?_ _));exact BK987.out) Try.underlying55 rfl (by kernel_rfl)) rfl ?_
    exact ⟨_,by first|rfl|(simp [errW_none,errW_some] <;> rfl)|(simp [*,errW_none,errW_some] <;> rfl),by first|exact Kd.R_nil _ _ _ _ _|exact Kd.N_nil _ _ _ _ _|exact Kd.V_nil _ _ _ _ _|exact Kd.Q_nil _ _ _ _ _|exact Kd.S_nil _ _ _ _ _,by repeat (first|(with_reducible first|exact HB.out|apply zbA|apply zbN|apply zb1|refine zbS ?_ GE987.out)|exact HB.out)⟩
   replace c10:=Bool.eq_false_iff.mpr c10
   subst c10
   have H1:((q1ReadCount.f kj2 a0 0 1099511627776).bind fun bt991=>((q1ReadCount.f kj2 bt991.2.1 bt991.2.2 1099511627776).bind fun bt994=>((q1ReadText.f kj2 bt994.2.1 bt994.2.2 31).bind fun bt997=>((q1ReadText.f kj2 bt997.2.1 bt997.2.2 400).bind fun bt1000=>((q1ReadCount.f kj2 bt1000.2.1 bt1000.2.2 16).bind fun bt1003=>(q7Decode.l0 kj2 a0 a1 bt1003.1 0 bt1003.2.1 bt1003.2.2 bt991.1 bt994.1 bt997.1 bt1000.1 ([]:List (S103))))))))=some (r1,r2,r3,r4,r5,r6):=by rw [if_neg (show ¬ (false=true) by decide)] at H;exact H
   clear H
   have H:=H1
   clear H1
   replace H:=Option.bind_eq_some_iff.mp H
   obtain ⟨⟨t991,t992,t993⟩,A120,H⟩:=H
   replace H:((q1ReadCount.f kj2 t992 t993 1099511627776).bind fun bt994=>((q1ReadText.f kj2 bt994.2.1 bt994.2.2 31).bind fun bt997=>((q1ReadText.f kj2 bt997.2.1 bt997.2.2 400).bind fun bt1000=>((q1ReadCount.f kj2 bt1000.2.1 bt1000.2.2 16).bind fun bt1003=>(q7Decode.l0 kj2 a0 a1 bt1003.1 0 bt1003.2.1 bt1003.2.2 t991 bt994.1 bt997.1 bt1000.1 ([]:List (S103)))))))=some (r1,r2,r3,r4,r5,r6):=H
   have A12:=Z0.mk A120
   clear A120
   replace H:=Option.bind_eq_some_iff.mp H
   obtain ⟨⟨t994,t995,t996⟩,A130,H⟩:=H
   replace H:((q1ReadText.f kj2 t995 t996 31).bind fun bt997=>((q1ReadText.f kj2 bt997.2.1 bt997.2.2 400).bind fun bt1000=>((q1ReadCount.f kj2 bt1000.2.1 bt1000.2.2 16).bind fun bt1003=>(q7Decode.l0 kj2 a0 a1 bt1003.1 0 bt1003.2.1 bt1003.2.2 t991 t994 bt997.1 bt1000.1 ([]:List (S103))))))=some (r1,r2,r3,r4,r5,r6):=H
   have A13:=Z0.mk A130
   clear A130
   replace H:=Option.bind_eq_some_iff.mp H
   obtain ⟨⟨t997,t998,t999⟩,A140,H⟩:=H
   replace H:((q1ReadText.f kj2 t998 t999 400).bind fun bt1000=>((q1ReadCount.f kj2 bt1000.2.1 bt1000.2.2 16).bind fun bt1003=>(q7Decode.l0 kj2 a0 a1 bt1003.1 0 bt1003.2.1 bt1003.2.2 t991 t994 t997 bt1000.1 ([]:List (S103)))))=some (r1,r2,r3,r4,r5,r6):=H
   have A14:=Z0.mk A140
   clear A140
   replace H:=Option.bind_eq_some_iff.mp H
   obtain ⟨⟨t1000,t1001,t1002⟩,A150,H⟩:=H
   replace H:((q1ReadCount.f kj2 t1001 t1002 16).bind fun bt1003=>(q7Decode.l0 kj2 a0 a1 bt1003.1 0 bt1003.2.1 bt1003.2.2 t991 t994 t997 t1000 ([]:List (S103))))=some (r1,r2,r3,r4,r5,r6):=H
   have A15:=Z0.mk A150
   clear A150
   replace H:=Option.bind_eq_some_iff.mp H
   obtain ⟨⟨t1003,t1004,t1005⟩,A160,H⟩:=H
   replace H:(q7Decode.l0 kj2 a0 a1 t1003 0 t1004 t1005 t991 t994 t997 t1000 ([]:List (S103)))=some (r1,r2,r3,r4,r5,r6):=H
   have A16:=Z0.mk A160
   clear A160
   have H':=Z0.mk H
   clear H
   go_wp2_with (first|((with_reducible refine gate_callee (f:=121) rfl ?_);refine goesL_ (some 28) rfl rfl Try.func121 (by kernel_rfl) rfl #[.string a0] rfl (by (try simp only [List.map_toArray,List.map_cons,List.map_nil]);first|done|rfl|(simp only [List.length_drop,List.length_take];rfl)) ?_;(with_reducible refine (q1Zero.calls kj2 a0 false _ A9.out).mono ?_);rintro e w' ⟨rfl,⟨nd,rfl⟩⟩;refine ⟨_,rfl,?_⟩;(try (rw [drewN_self wc];generalize hq_:World.drewN wc _=wc;have n0_:Z0 (wc.heap[gb987]?=some (.cells #[.int .i64 0,.int .i64 0,.string (⟨#[]⟩:ByteArray),.string (⟨#[]⟩:ByteArray),.slice none 0 0] 55 (0,0))):=⟨by rw [← hq_];exact (by (with_reducible repeat (first|refine zkN ?_ _|refine zkD ?_|refine zkA ?_ _));exact BK987.out)⟩;have n1_:Z0 (Below w.heap.size w wc):=⟨by rw [← hq_];exact (by repeat (first|(with_reducible first|exact HB.out|apply zbA|apply zbN|apply zb1|refine zbS ?_ GE987.out)|exact HB.out))⟩;clear BK987 HB hq_;have BK987:=n0_;have HB:=n1_;clear n0_ n1_)))|((with_reducible refine gate_dst (N:=6) rfl ?_);refine box_event ?hg (N:=6) ?hd (cs:=#[.string (⟨#[]⟩:ByteArray),.int .i64 0]) (t:=69) ?hr ?_;(case hd=>rfl);(case hg=>rfl);(case hr=>first|(go_simp;done)|(go_simp;rfl));intro gb990 hg w17 hbox hb;have n0_:=Z0.mk (blk_below (g:=gb987) (o:=.cells #[.int .i64 0,.int .i64 0,.string (⟨#[]⟩:ByteArray),.string (⟨#[]⟩:ByteArray),.slice none 0 0] 55 (0,0)) (by (with_reducible repeat (first|refine zkN ?_ _|refine zkD ?_|refine zkA ?_ _));exact BK987.out) hb);have n1_:=Z0.mk (below_step (by repeat (first|(with_reducible first|exact HB.out|apply zbA|apply zbN|apply zb1|refine zbS ?_ GE987.out)|exact HB.out)) hb);have n2_:=Z0.mk (hbox);have n3_:=Z0.mk ((by rw [hg];exact (below_size (by repeat (first|(with_reducible first|exact HB.out|apply zbA|apply zbN|apply zb1|refine zbS ?_ GE987.out)|exact HB.out))) : w.heap.size≤gb990));have n4_:=Z0.mk ((by rw [hg];exact (below_size (by repeat (first|(with_reducible first|exact HB.out|apply zbA|apply zbN|apply zb1|refine zbS ?_ GE987.out)|exact HB.out))) : w.heap.size≤gb990));have n5_:=Z0.mk ((by rw [hg];exact Nat.ne_of_lt (blk_lt (g:=gb987) (o:=.cells #[.int .i64 0,.int .i64 0,.string (⟨#[]⟩:ByteArray),.string (⟨#[]⟩:ByteArray),.slice none 0 0] 55 (0,0)) (by (with_reducible repeat (first|refine zkN ?_ _|refine zkD ?_|refine zkA ?_ _));exact BK987.out)) : gb987 ≠ gb990));have n6_:=Z0.mk ((by rw [hg];exact Nat.ne_of_gt (blk_lt (g:=gb987) (o:=.cells #[.int .i64 0,.int .i64 0,.string (⟨#[]⟩:ByteArray),.string (⟨#[]⟩:ByteArray),.slice none 0 0] 55 (0,0)) (by (with_reducible repeat (first|refine zkN ?_ _|refine zkD ?_|refine zkA ?_ _));exact BK987.out)) : gb990 ≠ gb987));clear BK987;clear HB;have BK987:=n0_;have HB:=n1_;have BK990:=n2_;have GW990:=n3_;have GE990:=n4_;have NB987_990:=n5_;have NB990_987:=n6_;clear n0_ n1_ n2_ n3_ n4_ n5_ n6_;clear hb hbox hg;have hnb18:=NB990_987.out;have hnc18:=NB987_990.out;have hcz19_0 : w17.cell? ⟨gb990,0,none⟩=some (.string (⟨#[]⟩:ByteArray)):=(zkC BK990.out 0).trans rfl;have hcz19_1 : w17.cell? ⟨gb990,1,none⟩=some (.int .i64 0):=(zkC BK990.out 1).trans rfl;have hfz19_0:=zkF BK990.out 0;have hfz19_1:=zkF BK990.out 1)|((with_reducible refine gate_callee (f:=77) rfl ?_);refine goesL_ (some 34) rfl rfl Try.func77 (by kernel_rfl) rfl #[.agg #[.string a0,.int .i64 0],.int .i64 1099511627776] rfl (by (try simp only [List.map_toArray,List.map_cons,List.map_nil]);first|done|rfl|(simp only [List.length_drop,List.length_take];rfl)) ?_;(with_reducible refine (q1ReadCount.calls kj2 a0 0 1099511627776 t991 t992 t993 _ A12.out).mono ?_);rintro e w20 ⟨rfl,hb⟩;refine ⟨_,rfl,?_⟩;have n0_:=Z0.mk (blk_below (g:=gb987) (o:=.cells #[.int .i64 0,.int .i64 0,.string (⟨#[]⟩:ByteArray),.string (⟨#[]⟩:ByteArray),.slice none 0 0] 55 (0,0)) (by (with_reducible repeat (first|refine zkN ?_ _|refine zkD ?_|refine zkA ?_ _));refine blk_far ?_ NB987_990.out _;(with_reducible repeat (first|refine zkN ?_ _|refine zkD ?_|refine zkA ?_ _));refine blk_far ?_ NB987_990.out _;(with_reducible repeat (first|refine zkN ?_ _|refine zkD ?_|refine zkA ?_ _));exact BK987.out) hb);have n1_:=Z0.mk (blk_below (g:=gb990) (o:=.cells #[.string a0,.int .i64 0] 69 (0,0)) (by (with_reducible repeat (first|refine zkN ?_ _|refine zkD ?_|refine zkA ?_ _));refine blk_put (cs:=#[.string a0,.int .i64 0]) ?_ 1 _ rfl;(with_reducible repeat (first|refine zkN ?_ _|refine zkD ?_|refine zkA ?_ _));refine blk_put (cs:=#[.string (⟨#[]⟩:ByteArray),.int .i64 0]) ?_ 0 _ rfl;(with_reducible repeat (first|refine zkN ?_ _|refine zkD ?_|refine zkA ?_ _));exact BK990.out) hb);have n2_:=Z0.mk (below_step (by repeat (first|(with_reducible first|exact HB.out|apply zbA|apply zbN|apply zb1|refine zbS ?_ GE987.out|refine zbS ?_ GE990.out)|exact HB.out)) hb);clear BK987;clear BK990;clear HB;have BK987:=n0_;have BK990:=n1_;have HB:=n2_;clear n0_ n1_ n2_;(try clear hb);(try clear hb2);(try clear hk);(try clear hi);have hcz21_0 : w20.cell? ⟨gb990,0,none⟩=some (.string a0):=(zkC BK990.out 0).trans rfl;have hcz21_1 : w20.cell? ⟨gb990,1,none⟩=some (.int .i64 0):=(zkC BK990.out 1).trans rfl;have hfz21_0:=zkF BK990.out 0;have hfz21_1:=zkF BK990.out 1)|((with_reducible refine gate_callee (f:=77) rfl ?_);refine goesL_ (some 39) rfl rfl Try.func77 (by kernel_rfl) rfl #[.agg #[.string t992,.int .i64 t993],.int .i64 1099511627776] rfl (by (try simp only [List.map_toArray,List.map_cons,List.map_nil]);first|done|rfl|(simp only [List.length_drop,List.length_take];rfl)) ?_;(with_reducible refine (q1ReadCount.calls kj2 t992 t993 1099511627776 t994 t995 t996 _ A13.out).mono ?_);rintro e w22 ⟨rfl,hb⟩;refine ⟨_,rfl,?_⟩;have n0_:=Z0.mk (blk_below (g:=gb987) (o:=.cells #[.int .i64 0,.int .i64 0,.string (⟨#[]⟩:ByteArray),.string (⟨#[]⟩:ByteArray),.slice none 0 0] 55 (0,0)) (by (with_reducible repeat (first|refine zkN ?_ _|refine zkD ?_|refine zkA ?_ _));refine blk_far ?_ NB987_990.out _;(with_reducible repeat (first|refine zkN ?_ _|refine zkD ?_|refine zkA ?_ _));refine blk_far ?_ NB987_990.out _;(with_reducible repeat (first|refine zkN ?_ _|refine zkD ?_|refine zkA ?_ _));exact BK987.out) hb);have n1_:=Z0.mk (blk_below (g:=gb990) (o:=.cells #[.string t992,.int .i64 t993] 69 (0,0)) (by (with_reducible repeat (first|refine zkN ?_ _|refine zkD ?_|refine zkA ?_ _));refine blk_put (cs:=#[.string t992,.int .i64 0]) ?_ 1 _ rfl;(with_reducible repeat (first|refine zkN ?_ _|refine zkD ?_|refine zkA ?_ _));refine blk_put (cs:=#[.string a0,.int .i64 0]) ?_ 0 _ rfl;(with_reducible repeat (first|refine zkN ?_ _|refine zkD ?_|refine zkA ?_ _));exact BK990.out) hb);have n2_:=Z0.mk (below_step (by repeat (first|(with_reducible first|exact HB.out|apply zbA|apply zbN|apply zb1|refine zbS ?_ GE987.out|refine zbS ?_ GE990.out)|exact HB.out)) hb);clear BK987;clear BK990;clear HB;have BK987:=n0_;have BK990:=n1_;have HB:=n2_;clear n0_ n1_ n2_;(try clear hb);(try clear hb2);(try clear hk);(try clear hi);have hcz23_0 : w22.cell? ⟨gb990,0,none⟩=some (.string t992):=(zkC BK990.out 0).trans rfl;have hcz23_1 : w22.cell? ⟨gb990,1,none⟩=some (.int .i64 t993):=(zkC BK990.out 1).trans rfl;have hfz23_0:=zkF BK990.out 0;have hfz23_1:=zkF BK990.out 1)|((with_reducible refine gate_callee (f:=76) rfl ?_);refine goesL_ (some 44) rfl rfl Try.func76 (by kernel_rfl) rfl #[.agg #[.string t995,.int .i64 t996],.int .i64 31] rfl (by (try simp only [List.map_toArray,List.map_cons,List.map_nil]);first|done|rfl|(simp only [List.length_drop,List.length_take];rfl)) ?_;(with_reducible refine (q1ReadText.calls kj2 t995 t996 31 t997 t998 t999 _ A14.out).mono ?_);rintro e w24 ⟨rfl,hb⟩;refine ⟨_,rfl,?_⟩;have n0_:=Z0.mk (blk_below (g:=gb987) (o:=.cells #[.int .i64 0,.int .i64 0,.string (⟨#[]⟩:ByteArray),.string (⟨#[]⟩:ByteArray),.slice none 0 0] 55 (0,0)) (by (with_reducible repeat (first|refine zkN ?_ _|refine zkD ?_|refine zkA ?_ _));refine blk_far ?_ NB987_990.out _;(with_reducible repeat (first|refine zkN ?_ _|refine zkD ?_|refine zkA ?_ _));refine blk_far ?_ NB987_990.out _;(with_reducible repeat (first|refine zkN ?_ _|refine zkD ?_|refine zkA ?_ _));exact BK987.out) hb);have n1_:=Z0.mk (blk_below (g:=gb990) (o:=.cells #[.string t995,.int .i64 t996] 69 (0,0)) (by (with_reducible repeat (first|refine zkN ?_ _|refine zkD ?_|refine zkA ?_ _));refine blk_put (cs:=#[.string t995,.int .i64 t993]) ?_ 1 _ rfl;(with_reducible repeat (first|refine zkN ?_ _|refine zkD ?_|refine zkA ?_ _));refine blk_put (cs:=#[.string t992,.int .i64 t993]) ?_ 0 _ rfl;(with_reducible repeat (first|refine zkN ?_ _|refine zkD ?_|refine zkA ?_ _));exact BK990.out) hb);have n2_:=Z0.mk (below_step (by repeat (first|(with_reducible first|exact HB.out|apply zbA|apply zbN|apply zb1|refine zbS ?_ GE987.out|refine zbS ?_ GE990.out)|exact HB.out)) hb);clear BK987;clear BK990;clear HB;have BK987:=n0_;have BK990:=n1_;have HB:=n2_;clear n0_ n1_ n2_;(try clear hb);(try clear hb2);(try clear hk);(try clear hi);have hcz25_0 : w24.cell? ⟨gb990,0,none⟩=some (.string t995):=(zkC BK990.out 0).trans rfl;have hcz25_1 : w24.cell? ⟨gb990,1,none⟩=some (.int .i64 t996):=(zkC BK990.out 1).trans rfl;have hfz25_0:=zkF BK990.out 0;have hfz25_1:=zkF BK990.out 1)|((with_reducible refine gate_callee (f:=76) rfl ?_);refine goesL_ (some 49) rfl rfl Try.func76 (by kernel_rfl) rfl #[.agg #[.string t998,.int .i64 t999],.int .i64 400] rfl (by (try simp only [List.map_toArray,List.map_cons,List.map_nil]);first|done|rfl|(simp only [List.length_drop,List.length_take];rfl)) ?_;(with_reducible refine (q1ReadText.calls kj2 t998 t999 400 t1000 t1001 t1002 _ A15.out).mono ?_);rintro e w26 ⟨rfl,hb⟩;refine ⟨_,rfl,?_⟩;have n0_:=Z0.mk (blk_below (g:=gb987) (o:=.cells #[.int .i64 0,.int .i64 0,.string (⟨#[]⟩:ByteArray),.string (⟨#[]⟩:ByteArray),.slice none 0 0] 55 (0,0)) (by (with_reducible repeat (first|refine zkN ?_ _|refine zkD ?_|refine zkA ?_ _));refine blk_far ?_ NB987_990.out _;(with_reducible repeat (first|refine zkN ?_ _|refine zkD ?_|refine zkA ?_ _));refine blk_far ?_ NB987_990.out _;(with_reducible repeat (first|refine zkN ?_ _|refine zkD ?_|refine zkA ?_ _));exact BK987.out) hb);have n1_:=Z0.mk (blk_below (g:=gb990) (o:=.cells #[.string t998,.int .i64 t999] 69 (0,0)) (by (with_reducible repeat (first|refine zkN ?_ _|refine zkD ?_|refine zkA ?_ _));refine blk_put (cs:=#[.string t998,.int .i64 t996]) ?_ 1 _ rfl;(with_reducible repeat (first|refine zkN ?_ _|refine zkD ?_|refine zkA ?_ _));refine blk_put (cs:=#[.string t995,.int .i64 t996]) ?_ 0 _ rfl;(with_reducible repeat (first|refine zkN ?_ _|refine zkD ?_|refine zkA ?_ _));exact BK990.out) hb);have n2_:=Z0.mk (below_step (by repeat (first|(with_reducible first|exact HB.out|apply zbA|apply zbN|apply zb1|refine zbS ?_ GE987.out|refine zbS ?_ GE990.out)|exact HB.out)) hb);clear BK987;clear BK990;clear HB;have BK987:=n0_;have BK990:=n1_;have HB:=n2_;clear n0_ n1_ n2_;(try clear hb);(try clear hb2);(try clear hk);(try clear hi);have hcz27_0 : w26.cell? ⟨gb990,0,none⟩=some (.string t998):=(zkC BK990.out 0).trans rfl;have hcz27_1 : w26.cell? ⟨gb990,1,none⟩=some (.int .i64 t999):=(zkC BK990.out 1).trans rfl;have hfz27_0:=zkF BK990.out 0;have hfz27_1:=zkF BK990.out 1)|((with_reducible refine gate_callee (f:=77) rfl ?_);refine goesL_ (some 54) rfl rfl Try.func77 (by kernel_rfl) rfl #[.agg #[.string t1001,.int .i64 t1002],.int .i64 16] rfl (by (try simp only [List.map_toArray,List.map_cons,List.map_nil]);first|done|rfl|(simp only [List.length_drop,List.length_take];rfl)) ?_;(with_reducible refine (q1ReadCount.calls kj2 t1001 t1002 16 t1003 t1004 t1005 _ A16.out).mono ?_);rintro e w28 ⟨rfl,hb⟩;refine ⟨_,rfl,?_⟩;have n0_:=Z0.mk (blk_below (g:=gb987) (o:=.cells #[.int .i64 0,.int .i64 0,.string (⟨#[]⟩:ByteArray),.string (⟨#[]⟩:ByteArray),.slice none 0 0] 55 (0,0)) (by (with_reducible repeat (first|refine zkN ?_ _|refine zkD ?_|refine zkA ?_ _));refine blk_far ?_ NB987_990.out _;(with_reducible repeat (first|refine zkN ?_ _|refine zkD ?_|refine zkA ?_ _));refine blk_far ?_ NB987_990.out _;(with_reducible repeat (first|refine zkN ?_ _|refine zkD ?_|refine zkA ?_ _));exact BK987.out) hb);have n1_:=Z0.mk (blk_below (g:=gb990) (o:=.cells #[.string t1001,.int .i64 t1002] 69 (0,0)) (by (with_reducible repeat (first|refine zkN ?_ _|refine zkD ?_|refine zkA ?_ _));refine blk_put (cs:=#[.string t1001,.int .i64 t999]) ?_ 1 _ rfl;(with_reducible repeat (first|refine zkN ?_ _|refine zkD ?_|refine zkA ?_ _));refine blk_put (cs:=#[.string t998,.int .i64 t999]) ?_ 0 _ rfl;(with_reducible repeat (first|refine zkN ?_ _|refine zkD ?_|refine zkA ?_ _));exact BK990.out) hb);have n2_:=Z0.mk (below_step (by repeat (first|(with_reducible first|exact HB.out|apply zbA|apply zbN|apply zb1|refine zbS ?_ GE987.out|refine zbS ?_ GE990.out)|exact HB.out)) hb);clear BK987;clear BK990;clear HB;have BK987:=n0_;have BK990:=n1_;have HB:=n2_;clear n0_ n1_ n2_;(try clear hb);(try clear hb2);(try clear hk);(try clear hi);have hcz29_0 : w28.cell? ⟨gb990,0,none⟩=some (.string t1001):=(zkC BK990.out 0).trans rfl;have hcz29_1 : w28.cell? ⟨gb990,1,none⟩=some (.int .i64 t1002):=(zkC BK990.out 1).trans rfl;have hfz29_0:=zkF BK990.out 0;have hfz29_1:=zkF BK990.out 1)|((with_reducible refine gate_dst (N:=12) rfl ?_);refine box_event ?hg (N:=12) ?hd (cs:=#[.int .i64 0,.int .i64 0,.string (⟨#[]⟩:ByteArray),.string (⟨#[]⟩:ByteArray),.slice none 0 0]) (t:=55) ?hr ?_;(case hd=>rfl);(case hg=>rfl);(case hr=>first|(go_simp;done)|(go_simp;rfl));intro gb1006 hg w30 hbox hb;have n0_:=Z0.mk (blk_below (g:=gb987) (o:=.cells #[.int .i64 0,.int .i64 0,.string (⟨#[]⟩:ByteArray),.string (⟨#[]⟩:ByteArray),.slice none 0 0] 55 (0,0)) (by (with_reducible repeat (first|refine zkN ?_ _|refine zkD ?_|refine zkA ?_ _));refine blk_far ?_ NB987_990.out _;(with_reducible repeat (first|refine zkN ?_ _|refine zkD ?_|refine zkA ?_ _));refine blk_far ?_ NB987_990.out _;(with_reducible repeat (first|refine zkN ?_ _|refine zkD ?_|refine zkA ?_ _));exact BK987.out) hb);have n1_:=Z0.mk (blk_below (g:=gb990) (o:=.cells #[.string t1004,.int .i64 t1005] 69 (0,0)) (by (with_reducible repeat (first|refine zkN ?_ _|refine zkD ?_|refine zkA ?_ _));refine blk_put (cs:=#[.string t1004,.int .i64 t1002]) ?_ 1 _ rfl;(with_reducible repeat (first|refine zkN ?_ _|refine zkD ?_|refine zkA ?_ _));refine blk_put (cs:=#[.string t1001,.int .i64 t1002]) ?_ 0 _ rfl;(with_reducible repeat (first|refine zkN ?_ _|refine zkD ?_|refine zkA ?_ _));exact BK990.out) hb);have n2_:=Z0.mk (below_step (by repeat (first|(with_reducible first|exact HB.out|apply zbA|apply zbN|apply zb1|refine zbS ?_ GE987.out|refine zbS ?_ GE990.out)|exact HB.out)) hb);have n3_:=Z0.mk (hbox);have n4_:=Z0.mk ((by rw [hg];exact (below_size (by repeat (first|(with_reducible first|exact HB.out|apply zbA|apply zbN|apply zb1|refine zbS ?_ GE987.out|refine zbS ?_ GE990.out)|exact HB.out))) : w.heap.size≤gb1006));have n5_:=Z0.mk ((by rw [hg];exact (below_size (by repeat (first|(with_reducible first|exact HB.out|apply zbA|apply zbN|apply zb1|refine zbS ?_ GE987.out|refine zbS ?_ GE990.out)|exact HB.out))) : w.heap.size≤gb1006));have n6_:=Z0.mk ((by rw [hg];exact Nat.ne_of_lt (blk_lt (g:=gb987) (o:=.cells #[.int .i64 0,.int .i64 0,.string (⟨#[]⟩:ByteArray),.string (⟨#[]⟩:ByteArray),.slice none 0 0] 55 (0,0)) (by (with_reducible repeat (first|refine zkN ?_ _|refine zkD ?_|refine zkA ?_ _));refine blk_far ?_ NB987_990.out _;(with_reducible repeat (first|refine zkN ?_ _|refine zkD ?_|refine zkA ?_ _));refine blk_far ?_ NB987_990.out _;(with_reducible repeat (first|refine zkN ?_ _|refine zkD ?_|refine zkA ?_ _));exact BK987.out)) : gb987 ≠ gb1006));have n7_:=Z0.mk ((by rw [hg];exact Nat.ne_of_gt (blk_lt (g:=gb987) (o:=.cells #[.int .i64 0,.int .i64 0,.string (⟨#[]⟩:ByteArray),.string (⟨#[]⟩:ByteArray),.slice none 0 0] 55 (0,0)) (by (with_reducible repeat (first|refine zkN ?_ _|refine zkD ?_|refine zkA ?_ _));refine blk_far ?_ NB987_990.out _;(with_reducible repeat (first|refine zkN ?_ _|refine zkD ?_|refine zkA ?_ _));refine blk_far ?_ NB987_990.out _;(with_reducible repeat (first|refine zkN ?_ _|refine zkD ?_|refine zkA ?_ _));exact BK987.out)) : gb1006 ≠ gb987));have n8_:=Z0.mk ((by rw [hg];exact Nat.ne_of_lt (blk_lt (g:=gb990) (o:=.cells #[.string t1004,.int .i64 t1005] 69 (0,0)) (by (with_reducible repeat (first|refine zkN ?_ _|refine zkD ?_|refine zkA ?_ _));refine blk_put (cs:=#[.string t1004,.int .i64 t1002]) ?_ 1 _ rfl;(with_reducible repeat (first|refine zkN ?_ _|refine zkD ?_|refine zkA ?_ _));refine blk_put (cs:=#[.string t1001,.int .i64 t1002]) ?_ 0 _ rfl;(with_reducible repeat (first|refine zkN ?_ _|refine zkD ?_|refine zkA ?_ _));exact BK990.out)) : gb990 ≠ gb1006));have n9_:=Z0.mk ((by rw [hg];exact Nat.ne_of_gt (blk_lt (g:=gb990) (o:=.cells #[.string t1004,.int .i64 t1005] 69 (0,0)) (by (with_reducible repeat (first|refine zkN ?_ _|refine zkD ?_|refine zkA ?_ _));refine blk_put (cs:=#[.string t1004,.int .i64 t1002]) ?_ 1 _ rfl;(with_reducible repeat (first|refine zkN ?_ _|refine zkD ?_|refine zkA ?_ _));refine blk_put (cs:=#[.string t1001,.int .i64 t1002]) ?_ 0 _ rfl;(with_reducible repeat (first|refine zkN ?_ _|refine zkD ?_|refine zkA ?_ _));exact BK990.out)) : gb1006 ≠ gb990));clear BK987;clear BK990;clear HB;have BK987:=n0_;have BK990:=n1_;have HB:=n2_;have BK1006:=n3_;have GW1006:=n4_;have GE1006:=n5_;have NB987_1006:=n6_;have NB1006_987:=n7_;have NB990_1006:=n8_;have NB1006_990:=n9_;clear n0_ n1_ n2_ n3_ n4_ n5_ n6_ n7_ n8_ n9_;clear hb hbox hg;have hnb31:=NB1006_987.out;have hnc31:=NB987_1006.out;have hnb32:=NB1006_990.out;have hnc32:=NB990_1006.out;have hcz33_0 : w30.cell? ⟨gb1006,0,none⟩=some (.int .i64 0):=(zkC BK1006.out 0).trans rfl;have hcz33_1 : w30.cell? ⟨gb1006,1,none⟩=some (.int .i64 0):=(zkC BK1006.out 1).trans rfl;have hcz33_2 : w30.cell? ⟨gb1006,2,none⟩=some (.string (⟨#[]⟩:ByteArray)):=(zkC BK1006.out 2).trans rfl;have hcz33_3 : w30.cell? ⟨gb1006,3,none⟩=some (.string (⟨#[]⟩:ByteArray)):=(zkC BK1006.out 3).trans rfl;have hcz33_4 : w30.cell? ⟨gb1006,4,none⟩=some (.slice none 0 0):=(zkC BK1006.out 4).trans rfl;have hfz33_0:=zkF BK1006.out 0;have hfz33_1:=zkF BK1006.out 1;have hfz33_2:=zkF BK1006.out 2;have hfz33_3:=zkF BK1006.out 3;have hfz33_4:=zkF BK1006.out 4))
   go_loopg [13] kj2 (fun kq v13 w'=>∃ (x13_2:Int) (x991000_2:ByteArray) (x991001_2:Int) (x1007004_2:List (S103)) (u1007004:Value),v13=.int .i64 x13_2∧Z0 (q7Decode.l0 kq a0 a1 t1003 x13_2 x991000_2 x991001_2 t991 t994 t997 t1000 x1007004_2=some (r1,r2,r3,r4,r5,r6))∧Z0 (kq≤kj2)∧Z0 (Kd.R k103 103 w' w.heap.size (fun _=>True) u1007004 x1007004_2)∧Z0 (w'.heap[gb987]?=some (.cells #[.int .i64 0,.int .i64 0,.string (⟨#[]⟩:ByteArray),.string (⟨#[]⟩:ByteArray),(.slice none 0 0)] 55 (0,0)))∧Z0 (w'.heap[gb990]?=some (.cells #[.string x991000_2,.int .i64 x991001_2] 69 (0,0)))∧Z0 (w'.heap[gb1006]?=some (.cells #[.int .i64 t991,.int .i64 t994,.string t997,.string t1000,u1007004] 55 (0,0)))∧Z0 (Below w.heap.size w w'))
   case atStart=>exact ⟨(0),(t1004),(t1005),(([]:List (S103))),(.slice none 0 0),(by first|rfl|(simp;done)|(simp [*];done)),H',⟨Nat.le_refl _⟩,⟨by first|exact Kd.R_nil _ _ _ _ _|exact Kd.N_nil _ _ _ _ _|exact Kd.V_nil _ _ _ _ _|exact Kd.Q_nil _ _ _ _ _|exact Kd.S_nil _ _ _ _ _⟩,⟨by (with_reducible repeat (first|refine zkN ?_ _|refine zkD ?_|refine zkA ?_ _));refine blk_far ?_ NB987_1006.out _;(with_reducible repeat (first|refine zkN ?_ _|refine zkD ?_|refine zkA ?_ _));refine blk_far ?_ NB987_1006.out _;(with_reducible repeat (first|refine zkN ?_ _|refine zkD ?_|refine zkA ?_ _));refine blk_far ?_ NB987_1006.out _;(with_reducible repeat (first|refine zkN ?_ _|refine zkD ?_|refine zkA ?_ _));refine blk_far ?_ NB987_1006.out _;(with_reducible repeat (first|refine zkN ?_ _|refine zkD ?_|refine zkA ?_ _));refine blk_far ?_ NB987_1006.out _;(with_reducible repeat (first|refine zkN ?_ _|refine zkD ?_|refine zkA ?_ _));exact BK987.out⟩,⟨by (with_reducible repeat (first|refine zkN ?_ _|refine zkD ?_|refine zkA ?_ _));refine blk_far ?_ NB990_1006.out _;(with_reducible repeat (first|refine zkN ?_ _|refine zkD ?_|refine zkA ?_ _));refine blk_far ?_ NB990_1006.out _;(with_reducible repeat (first|refine zkN ?_ _|refine zkD ?_|refine zkA ?_ _));refine blk_far ?_ NB990_1006.out _;(with_reducible repeat (first|refine zkN ?_ _|refine zkD ?_|refine zkA ?_ _));refine blk_far ?_ NB990_1006.out _;(with_reducible repeat (first|refine zkN ?_ _|refine zkD ?_|refine zkA ?_ _));refine blk_far ?_ NB990_1006.out _;(with_reducible repeat (first|refine zkN ?_ _|refine zkD ?_|refine zkA ?_ _));exact BK990.out⟩,⟨by (with_reducible repeat (first|refine zkN ?_ _|refine zkD ?_|refine zkA ?_ _));refine blk_put (cs:=#[.int .i64 t991,.int .i64 t994,.string t997,.string t1000,.slice none 0 0]) ?_ 4 _ rfl;(with_reducible repeat (first|refine zkN ?_ _|refine zkD ?_|refine zkA ?_ _));refine blk_put (cs:=#[.int .i64 t991,.int .i64 t994,.string t997,.string (⟨#[]⟩:ByteArray),.slice none 0 0]) ?_ 3 _ rfl;(with_reducible repeat (first|refine zkN ?_ _|refine zkD ?_|refine zkA ?_ _));refine blk_put (cs:=#[.int .i64 t991,.int .i64 t994,.string (⟨#[]⟩:ByteArray),.string (⟨#[]⟩:ByteArray),.slice none 0 0]) ?_ 2 _ rfl;(with_reducible repeat (first|refine zkN ?_ _|refine zkD ?_|refine zkA ?_ _));refine blk_put (cs:=#[.int .i64 t991,.int .i64 0,.string (⟨#[]⟩:ByteArray),.string (⟨#[]⟩:ByteArray),.slice none 0 0]) ?_ 1 _ rfl;(with_reducible repeat (first|refine zkN ?_ _|refine zkD ?_|refine zkA ?_ _));refine blk_put (cs:=#[.int .i64 0,.int .i64 0,.string (⟨#[]⟩:ByteArray),.string (⟨#[]⟩:ByteArray),.slice none 0 0]) ?_ 0 _ rfl;(with_reducible repeat (first|refine zkN ?_ _|refine zkD ?_|refine zkA ?_ _));exact BK1006.out⟩,⟨by repeat (first|(with_reducible first|exact HB.out|apply zbA|apply zbN|apply zb1|refine zbS ?_ GE987.out|refine zbS ?_ GE990.out|refine zbS ?_ GE1006.out)|exact HB.out)⟩⟩
   case round =>
    clear H'
    try clear c1
    try clear p2
    try clear c3
    try clear c5
    try clear c5b0
    try clear c5b1
    try clear c7
    try clear c9
    try clear c10
    try clear c12
    try clear c18
    try clear c31
    try clear c32
    try clear hcz11_0
    try clear hcz11_1
    try clear hcz11_2
    try clear hcz11_3
    try clear hcz11_4
    try clear hcz19_0
    try clear hcz19_1
    try clear hcz21_0
    try clear hcz21_1
    try clear hcz23_0
    try clear hcz23_1
    try clear hcz25_0
    try clear hcz25_1
    try clear hcz27_0
    try clear hcz27_1
    try clear hcz29_0
    try clear hcz29_1
    try clear hcz33_0
    try clear hcz33_1
    try clear hcz33_2
    try clear hcz33_3
    try clear hcz33_4
    try clear hcz8_0
    try clear hcz8_1
    try clear hcz8_2
    try clear hcz8_3
    try clear hcz8_4
    try clear hfz11_0
    try clear hfz11_1
    try clear hfz11_2
    try clear hfz11_3
    try clear hfz11_4
    try clear hfz19_0
    try clear hfz19_1
    try clear hfz21_0
    try clear hfz21_1
    try clear hfz23_0
    try clear hfz23_1
    try clear hfz25_0
    try clear hfz25_1
    try clear hfz27_0
    try clear hfz27_1
    try clear hfz29_0
    try clear hfz29_1
    try clear hfz33_0
    try clear hfz33_1
    try clear hfz33_2
    try clear hfz33_3
    try clear hfz33_4
    try clear hfz8_0
    try clear hfz8_1
    try clear hfz8_2
    try clear hfz8_3
    try clear hfz8_4
    try clear p2
    obtain ⟨x13_2,x991000_2,x991001_2,x1007004_2,u1007004,rfl,HA,HK2,HO_1007004,BK987,BK990,BK1006,HB⟩:=hrel
    cases gk with
    | zero=>exact absurd HA.out (by simp [q7Decode.l0])
    | succ k2 =>
     have H:=HA.out
     clear HA
     simp only [q7Decode.l0] at H
     by_cases c34 : x13_2 < t1003
     ·rw [if_pos c34] at H
      have c34b0 : decide (x13_2 < t1003)=true:=decide_eq_true c34
      clear c34
      replace H:=Option.bind_eq_some_iff.mp H
      obtain ⟨⟨t1007,t1008,t1009⟩,A350,H⟩:=H
      replace H:((q1ReadCount.f k2 t1008 t1009 128).bind fun bt1011=>(if x1007004_2.length < 8796093022208 then (q7Decode.l0 k2 a0 a1 t1003 (wrap64 (x13_2 + 1)) bt1011.2.1 bt1011.2.2 t991 t994 t997 t1000 (x1007004_2++[(⟨t1007,bt1011.1⟩:S103)])) else (none)))=some (r1,r2,r3,r4,r5,r6):=H
      have A35:=Z0.mk A350
      clear A350
      replace H:=Option.bind_eq_some_iff.mp H
      obtain ⟨⟨t1011,t1012,t1013⟩,A360,H⟩:=H
      replace H:(if x1007004_2.length < 8796093022208 then (q7Decode.l0 k2 a0 a1 t1003 (wrap64 (x13_2 + 1)) t1012 t1013 t991 t994 t997 t1000 (x1007004_2++[(⟨t1007,t1011⟩:S103)])) else (none))=some (r1,r2,r3,r4,r5,r6):=H
      have A36:=Z0.mk A360
      clear A360
      by_cases c37 : x1007004_2.length < 8796093022208
      ·rw [if_pos c37] at H
       have LMc37:=Z0.mk c37
       clear c37
       obtain ⟨y1015,hy1015⟩:∃ y_:List (S103),y_=(x1007004_2++[(⟨t1007,t1011⟩:S103)]):=⟨_,rfl⟩
       replace H:(q7Decode.l0 k2 a0 a1 t1003 (wrap64 (x13_2 + 1)) t1012 t1013 t991 t994 t997 t1000 y1015)=some (r1,r2,r3,r4,r5,r6):=by first|(rw [hy1015];with_reducible exact H)|(have H2_:=(Option.bind_some _ _).symm.trans H;rw [hy1015];with_reducible exact H2_)|(have H2_:=(Option.bind_some _ _).symm.trans H;with_reducible exact H2_)|with_reducible exact H|(rw [hy1015];exact H)|exact H
       have Ny1015:=Z0.mk hy1015
       clear hy1015
       have H':=Z0.mk H
       clear H
       have hnb38:=NB990_987.out
       have hnc38:=NB987_990.out
       have hnb39:=NB990_1006.out
       have hnc39:=NB1006_990.out
       have hcz40_0 : wr.cell? ⟨gb990,0,none⟩=some (.string x991000_2):=(zkC BK990.out 0).trans rfl
       have hcz40_1 : wr.cell? ⟨gb990,1,none⟩=some (.int .i64 x991001_2):=(zkC BK990.out 1).trans rfl
       have hfz40_0:=zkF BK990.out 0
       have hfz40_1:=zkF BK990.out 1
       go_wp2_with (first|((with_reducible refine gate_callee (f:=77) rfl ?_);refine goesL_ (some 69) rfl rfl Try.func77 (by kernel_rfl) rfl #[.agg #[.string x991000_2,.int .i64 x991001_2],.int .i64 127] rfl (by (try simp only [List.map_toArray,List.map_cons,List.map_nil]);first|done|rfl|(simp only [List.length_drop,List.length_take];rfl)) ?_;(with_reducible refine (q1ReadCount.calls k2 x991000_2 x991001_2 127 t1007 t1008 t1009 _ A35.out).mono ?_);rintro e w41 ⟨rfl,hb⟩;refine ⟨_,rfl,?_⟩;have n0_:=Z0.mk (Kd.R_below (by (with_reducible repeat (first|apply Kd.R_alloc|apply Kd.R_drewN|apply Kd.R_drew));exact HO_1007004.out) hb);have n1_:=Z0.mk (blk_below (g:=gb987) (o:=.cells #[.int .i64 0,.int .i64 0,.string (⟨#[]⟩:ByteArray),.string (⟨#[]⟩:ByteArray),.slice none 0 0] 55 (0,0)) (by (with_reducible repeat (first|refine zkN ?_ _|refine zkD ?_|refine zkA ?_ _));exact BK987.out) hb);have n2_:=Z0.mk (blk_below (g:=gb990) (o:=.cells #[.string x991000_2,.int .i64 x991001_2] 69 (0,0)) (by (with_reducible repeat (first|refine zkN ?_ _|refine zkD ?_|refine zkA ?_ _));exact BK990.out) hb);have n3_:=Z0.mk (blk_below (g:=gb1006) (o:=.cells #[.int .i64 t991,.int .i64 t994,.string t997,.string t1000,u1007004] 55 (0,0)) (by (with_reducible repeat (first|refine zkN ?_ _|refine zkD ?_|refine zkA ?_ _));exact BK1006.out) hb);have n4_:=Z0.mk (below_step (by repeat (first|(with_reducible first|exact HB.out|apply zbA|apply zbN|apply zb1|refine zbS ?_ GE987.out|refine zbS ?_ GE990.out|refine zbS ?_ GE1006.out)|exact HB.out)) hb);clear HO_1007004;clear BK987;clear BK990;clear BK1006;clear HB;have HO_1007004:=n0_;have BK987:=n1_;have BK990:=n2_;have BK1006:=n3_;have HB:=n4_;clear n0_ n1_ n2_ n3_ n4_;(try clear hb);(try clear hb2);(try clear hk);(try clear hi))|((with_reducible refine gate_dst (N:=15) rfl ?_);refine box_event ?hg (N:=15) ?hd (cs:=#[.string (⟨#[]⟩:ByteArray),.int .i64 0]) (t:=69) ?hr ?_;(case hd=>rfl);(case hg=>rfl);(case hr=>first|(go_simp;done)|(go_simp;rfl));intro gb1010 hg w42 hbox hb;have n0_:=Z0.mk (Kd.R_below (by (with_reducible repeat (first|apply Kd.R_alloc|apply Kd.R_drewN|apply Kd.R_drew));exact HO_1007004.out) hb);have n1_:=Z0.mk (blk_below (g:=gb987) (o:=.cells #[.int .i64 0,.int .i64 0,.string (⟨#[]⟩:ByteArray),.string (⟨#[]⟩:ByteArray),.slice none 0 0] 55 (0,0)) (by (with_reducible repeat (first|refine zkN ?_ _|refine zkD ?_|refine zkA ?_ _));exact BK987.out) hb);have n2_:=Z0.mk (blk_below (g:=gb990) (o:=.cells #[.string x991000_2,.int .i64 x991001_2] 69 (0,0)) (by (with_reducible repeat (first|refine zkN ?_ _|refine zkD ?_|refine zkA ?_ _));exact BK990.out) hb);have n3_:=Z0.mk (blk_below (g:=gb1006) (o:=.cells #[.int .i64 t991,.int .i64 t994,.string t997,.string t1000,u1007004] 55 (0,0)) (by (with_reducible repeat (first|refine zkN ?_ _|refine zkD ?_|refine zkA ?_ _));exact BK1006.out) hb);have n4_:=Z0.mk (below_step (by repeat (first|(with_reducible first|exact HB.out|apply zbA|apply zbN|apply zb1|refine zbS ?_ GE987.out|refine zbS ?_ GE990.out|refine zbS ?_ GE1006.out)|exact HB.out)) hb);have n5_:=Z0.mk (hbox);have n6_:=Z0.mk ((by rw [hg];exact (below_size (by repeat (first|(with_reducible first|exact HB.out|apply zbA|apply zbN|apply zb1|refine zbS ?_ GE987.out|refine zbS ?_ GE990.out|refine zbS ?_ GE1006.out)|exact HB.out))) : w.heap.size≤gb1010));have n7_:=Z0.mk ((by rw [hg];exact (below_size (by repeat (first|(with_reducible first|exact HB.out|apply zbA|apply zbN|apply zb1|refine zbS ?_ GE987.out|refine zbS ?_ GE990.out|refine zbS ?_ GE1006.out)|exact HB.out))) : w.heap.size≤gb1010));have n8_:=Z0.mk ((by rw [hg];exact Nat.ne_of_lt (blk_lt (g:=gb987) (o:=.cells #[.int .i64 0,.int .i64 0,.string (⟨#[]⟩:ByteArray),.string (⟨#[]⟩:ByteArray),.slice none 0 0] 55 (0,0)) (by (with_reducible repeat (first|refine zkN ?_ _|refine zkD ?_|refine zkA ?_ _));exact BK987.out)) : gb987 ≠ gb1010));have n9_:=Z0.mk ((by rw [hg];exact Nat.ne_of_gt (blk_lt (g:=gb987) (o:=.cells #[.int .i64 0,.int .i64 0,.string (⟨#[]⟩:ByteArray),.string (⟨#[]⟩:ByteArray),.slice none 0 0] 55 (0,0)) (by (with_reducible repeat (first|refine zkN ?_ _|refine zkD ?_|refine zkA ?_ _));exact BK987.out)) : gb1010 ≠ gb987));have n10_:=Z0.mk ((by rw [hg];exact Nat.ne_of_lt (blk_lt (g:=gb990) (o:=.cells #[.string x991000_2,.int .i64 x991001_2] 69 (0,0)) (by (with_reducible repeat (first|refine zkN ?_ _|refine zkD ?_|refine zkA ?_ _));exact BK990.out)) : gb990 ≠ gb1010));have n11_:=Z0.mk ((by rw [hg];exact Nat.ne_of_gt (blk_lt (g:=gb990) (o:=.cells #[.string x991000_2,.int .i64 x991001_2] 69 (0,0)) (by (with_reducible repeat (first|refine zkN ?_ _|refine zkD ?_|refine zkA ?_ _));exact BK990.out)) : gb1010 ≠ gb990));have n12_:=Z0.mk ((by rw [hg];exact Nat.ne_of_lt (blk_lt (g:=gb1006) (o:=.cells #[.int .i64 t991,.int .i64 t994,.string t997,.string t1000,u1007004] 55 (0,0)) (by (with_reducible repeat (first|refine zkN ?_ _|refine zkD ?_|refine zkA ?_ _));exact BK1006.out)) : gb1006 ≠ gb1010));have n13_:=Z0.mk ((by rw [hg];exact Nat.ne_of_gt (blk_lt (g:=gb1006) (o:=.cells #[.int .i64 t991,.int .i64 t994,.string t997,.string t1000,u1007004] 55 (0,0)) (by (with_reducible repeat (first|refine zkN ?_ _|refine zkD ?_|refine zkA ?_ _));exact BK1006.out)) : gb1010 ≠ gb1006));clear HO_1007004;clear BK987;clear BK990;clear BK1006;clear HB;have HO_1007004:=n0_;have BK987:=n1_;have BK990:=n2_;have BK1006:=n3_;have HB:=n4_;have BK1010:=n5_;have GW1010:=n6_;have GE1010:=n7_;have NB987_1010:=n8_;have NB1010_987:=n9_;have NB990_1010:=n10_;have NB1010_990:=n11_;have NB1006_1010:=n12_;have NB1010_1006:=n13_;clear n0_ n1_ n2_ n3_ n4_ n5_ n6_ n7_ n8_ n9_ n10_ n11_ n12_ n13_;clear hb hbox hg;have hnb43:=NB1010_987.out;have hnc43:=NB987_1010.out;have hnb44:=NB1010_990.out;have hnc44:=NB990_1010.out;have hnb45:=NB1010_1006.out;have hnc45:=NB1006_1010.out;have hcz46_0 : w42.cell? ⟨gb1010,0,none⟩=some (.string (⟨#[]⟩:ByteArray)):=(zkC BK1010.out 0).trans rfl;have hcz46_1 : w42.cell? ⟨gb1010,1,none⟩=some (.int .i64 0):=(zkC BK1010.out 1).trans rfl;have hfz46_0:=zkF BK1010.out 0;have hfz46_1:=zkF BK1010.out 1)|((with_reducible refine gate_callee (f:=77) rfl ?_);refine goesL_ (some 74) rfl rfl Try.func77 (by kernel_rfl) rfl #[.agg #[.string t1008,.int .i64 t1009],.int .i64 128] rfl (by (try simp only [List.map_toArray,List.map_cons,List.map_nil]);first|done|rfl|(simp only [List.length_drop,List.length_take];rfl)) ?_;(with_reducible refine (q1ReadCount.calls k2 t1008 t1009 128 t1011 t1012 t1013 _ A36.out).mono ?_);rintro e w47 ⟨rfl,hb⟩;refine ⟨_,rfl,?_⟩;have n0_:=Z0.mk (Kd.R_below (by (with_reducible repeat (first|apply Kd.R_alloc|apply Kd.R_drewN|apply Kd.R_drew));exact (Kd.R_mono (Kd.R_far (p:=⟨gb1010,1,none⟩) (Kd.R_far (p:=⟨gb1010,0,none⟩) (Kd.R_types HO_1007004.out BK1010.out (by decide)) (fun _ hk=>hk.2) (.string t1008)) (fun _ hk=>hk.2) (.int .i64 t1009)) (fun _ h_=>h_.1))) hb);have n1_:=Z0.mk (blk_below (g:=gb987) (o:=.cells #[.int .i64 0,.int .i64 0,.string (⟨#[]⟩:ByteArray),.string (⟨#[]⟩:ByteArray),.slice none 0 0] 55 (0,0)) (by (with_reducible repeat (first|refine zkN ?_ _|refine zkD ?_|refine zkA ?_ _));refine blk_far ?_ NB987_1010.out _;(with_reducible repeat (first|refine zkN ?_ _|refine zkD ?_|refine zkA ?_ _));refine blk_far ?_ NB987_1010.out _;(with_reducible repeat (first|refine zkN ?_ _|refine zkD ?_|refine zkA ?_ _));exact BK987.out) hb);have n2_:=Z0.mk (blk_below (g:=gb990) (o:=.cells #[.string x991000_2,.int .i64 x991001_2] 69 (0,0)) (by (with_reducible repeat (first|refine zkN ?_ _|refine zkD ?_|refine zkA ?_ _));refine blk_far ?_ NB990_1010.out _;(with_reducible repeat (first|refine zkN ?_ _|refine zkD ?_|refine zkA ?_ _));refine blk_far ?_ NB990_1010.out _;(with_reducible repeat (first|refine zkN ?_ _|refine zkD ?_|refine zkA ?_ _));exact BK990.out) hb);have n3_:=Z0.mk (blk_below (g:=gb1006) (o:=.cells #[.int .i64 t991,.int .i64 t994,.string t997,.string t1000,u1007004] 55 (0,0)) (by (with_reducible repeat (first|refine zkN ?_ _|refine zkD ?_|refine zkA ?_ _));refine blk_far ?_ NB1006_1010.out _;(with_reducible repeat (first|refine zkN ?_ _|refine zkD ?_|refine zkA ?_ _));refine blk_far ?_ NB1006_1010.out _;(with_reducible repeat (first|refine zkN ?_ _|refine zkD ?_|refine zkA ?_ _));exact BK1006.out) hb);have n4_:=Z0.mk (blk_below (g:=gb1010) (o:=.cells #[.string t1008,.int .i64 t1009] 69 (0,0)) (by (with_reducible repeat (first|refine zkN ?_ _|refine zkD ?_|refine zkA ?_ _));refine blk_put (cs:=#[.string t1008,.int .i64 0]) ?_ 1 _ rfl;(with_reducible repeat (first|refine zkN ?_ _|refine zkD ?_|refine zkA ?_ _));refine blk_put (cs:=#[.string (⟨#[]⟩:ByteArray),.int .i64 0]) ?_ 0 _ rfl;(with_reducible repeat (first|refine zkN ?_ _|refine zkD ?_|refine zkA ?_ _));exact BK1010.out) hb);have n5_:=Z0.mk (below_step (by repeat (first|(with_reducible first|exact HB.out|apply zbA|apply zbN|apply zb1|refine zbS ?_ GE987.out|refine zbS ?_ GE990.out|refine zbS ?_ GE1006.out|refine zbS ?_ GE1010.out)|exact HB.out)) hb);clear HO_1007004;clear BK987;clear BK990;clear BK1006;clear BK1010;clear HB;have HO_1007004:=n0_;have BK987:=n1_;have BK990:=n2_;have BK1006:=n3_;have BK1010:=n4_;have HB:=n5_;clear n0_ n1_ n2_ n3_ n4_ n5_;(try clear hb);(try clear hb2);(try clear hk);(try clear hi))|((with_reducible refine gate_dst (N:=17) rfl ?_);refine box_event ?hg (N:=17) ?hd (cs:=#[.string (⟨#[]⟩:ByteArray),.int .i64 0]) (t:=69) ?hr ?_;(case hd=>rfl);(case hg=>rfl);(case hr=>first|(go_simp;done)|(go_simp;rfl));intro gb1014 hg w48 hbox hb;have n0_:=Z0.mk (Kd.R_below (by (with_reducible repeat (first|apply Kd.R_alloc|apply Kd.R_drewN|apply Kd.R_drew));exact HO_1007004.out) hb);have n1_:=Z0.mk (blk_below (g:=gb987) (o:=.cells #[.int .i64 0,.int .i64 0,.string (⟨#[]⟩:ByteArray),.string (⟨#[]⟩:ByteArray),.slice none 0 0] 55 (0,0)) (by (with_reducible repeat (first|refine zkN ?_ _|refine zkD ?_|refine zkA ?_ _));exact BK987.out) hb);have n2_:=Z0.mk (blk_below (g:=gb990) (o:=.cells #[.string x991000_2,.int .i64 x991001_2] 69 (0,0)) (by (with_reducible repeat (first|refine zkN ?_ _|refine zkD ?_|refine zkA ?_ _));exact BK990.out) hb);have n3_:=Z0.mk (blk_below (g:=gb1006) (o:=.cells #[.int .i64 t991,.int .i64 t994,.string t997,.string t1000,u1007004] 55 (0,0)) (by (with_reducible repeat (first|refine zkN ?_ _|refine zkD ?_|refine zkA ?_ _));exact BK1006.out) hb);have n4_:=Z0.mk (blk_below (g:=gb1010) (o:=.cells #[.string t1008,.int .i64 t1009] 69 (0,0)) (by (with_reducible repeat (first|refine zkN ?_ _|refine zkD ?_|refine zkA ?_ _));exact BK1010.out) hb);have n5_:=Z0.mk (below_step (by repeat (first|(with_reducible first|exact HB.out|apply zbA|apply zbN|apply zb1|refine zbS ?_ GE987.out|refine zbS ?_ GE990.out|refine zbS ?_ GE1006.out|refine zbS ?_ GE1010.out)|exact HB.out)) hb);have n6_:=Z0.mk (hbox);have n7_:=Z0.mk ((by rw [hg];exact (below_size (by repeat (first|(with_reducible first|exact HB.out|apply zbA|apply zbN|apply zb1|refine zbS ?_ GE987.out|refine zbS ?_ GE990.out|refine zbS ?_ GE1006.out|refine zbS ?_ GE1010.out)|exact HB.out))) : w.heap.size≤gb1014));have n8_:=Z0.mk ((by rw [hg];exact (below_size (by repeat (first|(with_reducible first|exact HB.out|apply zbA|apply zbN|apply zb1|refine zbS ?_ GE987.out|refine zbS ?_ GE990.out|refine zbS ?_ GE1006.out|refine zbS ?_ GE1010.out)|exact HB.out))) : w.heap.size≤gb1014));have n9_:=Z0.mk ((by rw [hg];exact Nat.ne_of_lt (blk_lt (g:=gb987) (o:=.cells #[.int .i64 0,.int .i64 0,.string (⟨#[]⟩:ByteArray),.string (⟨#[]⟩:ByteArray),.slice none 0 0] 55 (0,0)) (by (with_reducible repeat (first|refine zkN ?_ _|refine zkD ?_|refine zkA ?_ _));exact BK987.out)) : gb987 ≠ gb1014));have n10_:=Z0.mk ((by rw [hg];exact Nat.ne_of_gt (blk_lt (g:=gb987) (o:=.cells #[.int .i64 0,.int .i64 0,.string (⟨#[]⟩:ByteArray),.string (⟨#[]⟩:ByteArray),.slice none 0 0] 55 (0,0)) (by (with_reducible repeat (first|refine zkN ?_ _|refine zkD ?_|refine zkA ?_ _));exact BK987.out)) : gb1014 ≠ gb987));have n11_:=Z0.mk ((by rw [hg];exact Nat.ne_of_lt (blk_lt (g:=gb990) (o:=.cells #[.string x991000_2,.int .i64 x991001_2] 69 (0,0)) (by (with_reducible repeat (first|refine zkN ?_ _|refine zkD ?_|refine zkA ?_ _));exact BK990.out)) : gb990 ≠ gb1014));have n12_:=Z0.mk ((by rw [hg];exact Nat.ne_of_gt (blk_lt (g:=gb990) (o:=.cells #[.string x991000_2,.int .i64 x991001_2] 69 (0,0)) (by (with_reducible repeat (first|refine zkN ?_ _|refine zkD ?_|refine zkA ?_ _));exact BK990.out)) : gb1014 ≠ gb990));have n13_:=Z0.mk ((by rw [hg];exact Nat.ne_of_lt (blk_lt (g:=gb1006) (o:=.cells #[.int .i64 t991,.int .i64 t994,.string t997,.string t1000,u1007004] 55 (0,0)) (by (with_reducible repeat (first|refine zkN ?_ _|refine zkD ?_|refine zkA ?_ _));exact BK1006.out)) : gb1006 ≠ gb1014));have n14_:=Z0.mk ((by rw [hg];exact Nat.ne_of_gt (blk_lt (g:=gb1006) (o:=.cells #[.int .i64 t991,.int .i64 t994,.string t997,.string t1000,u1007004] 55 (0,0)) (by (with_reducible repeat (first|refine zkN ?_ _|refine zkD ?_|refine zkA ?_ _));exact BK1006.out)) : gb1014 ≠ gb1006));have n15_:=Z0.mk ((by rw [hg];exact Nat.ne_of_lt (blk_lt (g:=gb1010) (o:=.cells #[.string t1008,.int .i64 t1009] 69 (0,0)) (by (with_reducible repeat (first|refine zkN ?_ _|refine zkD ?_|refine zkA ?_ _));exact BK1010.out)) : gb1010 ≠ gb1014));have n16_:=Z0.mk ((by rw [hg];exact Nat.ne_of_gt (blk_lt (g:=gb1010) (o:=.cells #[.string t1008,.int .i64 t1009] 69 (0,0)) (by (with_reducible repeat (first|refine zkN ?_ _|refine zkD ?_|refine zkA ?_ _));exact BK1010.out)) : gb1014 ≠ gb1010));clear HO_1007004;clear BK987;clear BK990;clear BK1006;clear BK1010;clear HB;have HO_1007004:=n0_;have BK987:=n1_;have BK990:=n2_;have BK1006:=n3_;have BK1010:=n4_;have HB:=n5_;have BK1014:=n6_;have GW1014:=n7_;have GE1014:=n8_;have NB987_1014:=n9_;have NB1014_987:=n10_;have NB990_1014:=n11_;have NB1014_990:=n12_;have NB1006_1014:=n13_;have NB1014_1006:=n14_;have NB1010_1014:=n15_;have NB1014_1010:=n16_;clear n0_ n1_ n2_ n3_ n4_ n5_ n6_ n7_ n8_ n9_ n10_ n11_ n12_ n13_ n14_ n15_ n16_;clear hb hbox hg;have hnb49:=NB1014_987.out;have hnc49:=NB987_1014.out;have hnb50:=NB1014_990.out;have hnc50:=NB990_1014.out;have hnb51:=NB1014_1006.out;have hnc51:=NB1006_1014.out;have hnb52:=NB1014_1010.out;have hnc52:=NB1010_1014.out;have hcz53_0 : w48.cell? ⟨gb1014,0,none⟩=some (.string (⟨#[]⟩:ByteArray)):=(zkC BK1014.out 0).trans rfl;have hcz53_1 : w48.cell? ⟨gb1014,1,none⟩=some (.int .i64 0):=(zkC BK1014.out 1).trans rfl;have hfz53_0:=zkF BK1014.out 0;have hfz53_1:=zkF BK1014.out 1;have hcz54_0 : w48.cell? ⟨gb990,0,none⟩=some (.string x991000_2):=(zkC BK990.out 0).trans rfl;have hcz54_1 : w48.cell? ⟨gb990,1,none⟩=some (.int .i64 x991001_2):=(zkC BK990.out 1).trans rfl;have hfz54_0:=zkF BK990.out 0;have hfz54_1:=zkF BK990.out 1;have hnb55:=NB1006_987.out;have hnc55:=NB987_1006.out;have hcz56_0 : w48.cell? ⟨gb1006,0,none⟩=some (.int .i64 t991):=(zkC BK1006.out 0).trans rfl;have hcz56_1 : w48.cell? ⟨gb1006,1,none⟩=some (.int .i64 t994):=(zkC BK1006.out 1).trans rfl;have hcz56_2 : w48.cell? ⟨gb1006,2,none⟩=some (.string t997):=(zkC BK1006.out 2).trans rfl;have hcz56_3 : w48.cell? ⟨gb1006,3,none⟩=some (.string t1000):=(zkC BK1006.out 3).trans rfl;have hcz56_4 : w48.cell? ⟨gb1006,4,none⟩=some (u1007004):=(zkC BK1006.out 4).trans rfl;have hfz56_0:=zkF BK1006.out 0;have hfz56_1:=zkF BK1006.out 1;have hfz56_2:=zkF BK1006.out 2;have hfz56_3:=zkF BK1006.out 3;have hfz56_4:=zkF BK1006.out 4)|((with_reducible refine gate_builtin (b:=.append) (xs:=#[.tmp 79,.tmp 83]) rfl ?_);at_builtin;refine Kd.R_append k103 (w0:=w) w.heap.size rfl (.tmp 79) (.tmp 83) 35 103 (.agg #[(.int .i64 0),(.int .i64 0)]) 16 rfl Try.underlying35 info103 rfl (by decide) (by omega) u1007004 x1007004_2 (⟨t1007,t1011⟩:S103) [.int .i64 t1007,.int .i64 t1011] (fun _=>True) (fun _=>False) rfl (by first|(go_simp;done)|(go_simp;rfl)) ?aP (fun _ hk=>hk.elim) ?aF ?aO ?aB ?aS ?aL ?_;(case aP=>exact k103_mkM _ _ _ (⟨t1007,t1011⟩:S103));(case aB=>exact (by repeat (first|(with_reducible first|exact HB.out|apply zbA|apply zbN|apply zb1|refine zbS ?_ GE987.out|refine zbS ?_ GE990.out|refine zbS ?_ GE1006.out|refine zbS ?_ GE1010.out|refine zbS ?_ GE1014.out)|exact HB.out)));(case aF=>exact (fun _ _=>trivial));(case aO=>exact (by (with_reducible repeat (first|apply Kd.R_alloc|apply Kd.R_drewN|apply Kd.R_drew));exact Kd.R_mono (Kd.R_far (p:=⟨gb990,1,none⟩) (Kd.R_far (p:=⟨gb990,0,none⟩) (Kd.R_far (p:=⟨gb1014,1,none⟩) (Kd.R_far (p:=⟨gb1014,0,none⟩) (Kd.R_types (Kd.R_types HO_1007004.out BK1014.out (by decide)) BK990.out (by decide)) (fun _ hk=>hk.1.2) (.string t1012)) (fun _ hk=>hk.1.2) (.int .i64 t1013)) (fun _ hk=>hk.2) (.string t1012)) (fun _ hk=>hk.2) (.int .i64 t1013)) (fun _ hk=>trivial)));(case aS=>exact (below_size (by repeat (first|(with_reducible first|exact HB.out|apply zbA|apply zbN|apply zb1|refine zbS ?_ GE987.out|refine zbS ?_ GE990.out|refine zbS ?_ GE1006.out|refine zbS ?_ GE1010.out|refine zbS ?_ GE1014.out)|exact HB.out))));(case aL=>have:=LMc37.out;omega);intro v1016 w57 ho hb hg hat;rw [← Ny1015.out] at ho;have n0_:=Z0.mk (blk_grown (g:=gb987) (o:=.cells #[.int .i64 0,.int .i64 0,.string (⟨#[]⟩:ByteArray),.string (⟨#[]⟩:ByteArray),.slice none 0 0] 55 (0,0)) (by (with_reducible repeat (first|refine zkN ?_ _|refine zkD ?_|refine zkA ?_ _));refine blk_far ?_ NB987_990.out _;(with_reducible repeat (first|refine zkN ?_ _|refine zkD ?_|refine zkA ?_ _));refine blk_far ?_ NB987_990.out _;(with_reducible repeat (first|refine zkN ?_ _|refine zkD ?_|refine zkA ?_ _));refine blk_far ?_ NB987_1014.out _;(with_reducible repeat (first|refine zkN ?_ _|refine zkD ?_|refine zkA ?_ _));refine blk_far ?_ NB987_1014.out _;(with_reducible repeat (first|refine zkN ?_ _|refine zkD ?_|refine zkA ?_ _));exact BK987.out) hg (Kd.R_ne HO_1007004.out BK987.out (by decide)));have n1_:=Z0.mk (blk_grown (g:=gb990) (o:=.cells #[.string t1012,.int .i64 t1013] 69 (0,0)) (by (with_reducible repeat (first|refine zkN ?_ _|refine zkD ?_|refine zkA ?_ _));refine blk_put (cs:=#[.string t1012,.int .i64 x991001_2]) ?_ 1 _ rfl;(with_reducible repeat (first|refine zkN ?_ _|refine zkD ?_|refine zkA ?_ _));refine blk_put (cs:=#[.string x991000_2,.int .i64 x991001_2]) ?_ 0 _ rfl;(with_reducible repeat (first|refine zkN ?_ _|refine zkD ?_|refine zkA ?_ _));refine blk_far ?_ NB990_1014.out _;(with_reducible repeat (first|refine zkN ?_ _|refine zkD ?_|refine zkA ?_ _));refine blk_far ?_ NB990_1014.out _;(with_reducible repeat (first|refine zkN ?_ _|refine zkD ?_|refine zkA ?_ _));exact BK990.out) hg (Kd.R_ne HO_1007004.out BK990.out (by decide)));have n2_:=Z0.mk (blk_grown (g:=gb1006) (o:=.cells #[.int .i64 t991,.int .i64 t994,.string t997,.string t1000,u1007004] 55 (0,0)) (by (with_reducible repeat (first|refine zkN ?_ _|refine zkD ?_|refine zkA ?_ _));refine blk_far ?_ NB1006_990.out _;(with_reducible repeat (first|refine zkN ?_ _|refine zkD ?_|refine zkA ?_ _));refine blk_far ?_ NB1006_990.out _;(with_reducible repeat (first|refine zkN ?_ _|refine zkD ?_|refine zkA ?_ _));refine blk_far ?_ NB1006_1014.out _;(with_reducible repeat (first|refine zkN ?_ _|refine zkD ?_|refine zkA ?_ _));refine blk_far ?_ NB1006_1014.out _;(with_reducible repeat (first|refine zkN ?_ _|refine zkD ?_|refine zkA ?_ _));exact BK1006.out) hg (Kd.R_ne HO_1007004.out BK1006.out (by decide)));have n3_:=Z0.mk (blk_grown (g:=gb1010) (o:=.cells #[.string t1008,.int .i64 t1009] 69 (0,0)) (by (with_reducible repeat (first|refine zkN ?_ _|refine zkD ?_|refine zkA ?_ _));refine blk_far ?_ NB1010_990.out _;(with_reducible repeat (first|refine zkN ?_ _|refine zkD ?_|refine zkA ?_ _));refine blk_far ?_ NB1010_990.out _;(with_reducible repeat (first|refine zkN ?_ _|refine zkD ?_|refine zkA ?_ _));refine blk_far ?_ NB1010_1014.out _;(with_reducible repeat (first|refine zkN ?_ _|refine zkD ?_|refine zkA ?_ _));refine blk_far ?_ NB1010_1014.out _;(with_reducible repeat (first|refine zkN ?_ _|refine zkD ?_|refine zkA ?_ _));exact BK1010.out) hg (Kd.R_ne HO_1007004.out BK1010.out (by decide)));have n4_:=Z0.mk (blk_grown (g:=gb1014) (o:=.cells #[.string t1012,.int .i64 t1013] 69 (0,0)) (by (with_reducible repeat (first|refine zkN ?_ _|refine zkD ?_|refine zkA ?_ _));refine blk_far ?_ NB1014_990.out _;(with_reducible repeat (first|refine zkN ?_ _|refine zkD ?_|refine zkA ?_ _));refine blk_far ?_ NB1014_990.out _;(with_reducible repeat (first|refine zkN ?_ _|refine zkD ?_|refine zkA ?_ _));refine blk_put (cs:=#[.string t1012,.int .i64 0]) ?_ 1 _ rfl;(with_reducible repeat (first|refine zkN ?_ _|refine zkD ?_|refine zkA ?_ _));refine blk_put (cs:=#[.string (⟨#[]⟩:ByteArray),.int .i64 0]) ?_ 0 _ rfl;(with_reducible repeat (first|refine zkN ?_ _|refine zkD ?_|refine zkA ?_ _));exact BK1014.out) hg (Kd.R_ne HO_1007004.out BK1014.out (by decide)));have n5_:=Z0.mk (hb);have n6_:=Z0.mk (ho);clear BK987;clear BK990;clear BK1006;clear BK1010;clear BK1014;clear HB;clear HO_1007004;have BK987:=n0_;have BK990:=n1_;have BK1006:=n2_;have BK1010:=n3_;have BK1014:=n4_;have HB:=n5_;have HO1017:=n6_;clear n0_ n1_ n2_ n3_ n4_ n5_ n6_;clear ho hb hg hat;obtain ⟨Ao58,co58,eo58⟩:=Kd.R_slice HO1017.out;subst eo58;have hcz59_0 : w57.cell? ⟨gb1006,0,none⟩=some (.int .i64 t991):=(zkC BK1006.out 0).trans rfl;have hcz59_1 : w57.cell? ⟨gb1006,1,none⟩=some (.int .i64 t994):=(zkC BK1006.out 1).trans rfl;have hcz59_2 : w57.cell? ⟨gb1006,2,none⟩=some (.string t997):=(zkC BK1006.out 2).trans rfl;have hcz59_3 : w57.cell? ⟨gb1006,3,none⟩=some (.string t1000):=(zkC BK1006.out 3).trans rfl;have hcz59_4 : w57.cell? ⟨gb1006,4,none⟩=some (u1007004):=(zkC BK1006.out 4).trans rfl;have hfz59_0:=zkF BK1006.out 0;have hfz59_1:=zkF BK1006.out 1;have hfz59_2:=zkF BK1006.out 2;have hfz59_3:=zkF BK1006.out 3;have hfz59_4:=zkF BK1006.out 4))
       go_roundg k2
       case measure=>have:=HJ2.out;have:=HK2.out;omega
       case rel=>exact ⟨(wrap64 (x13_2 + 1)),(t1012),(t1013),(y1015),(.slice Ao58 y1015.length co58),(by first|rfl|(simp;done)|(simp [*];done)),H',⟨by have:=HJ2.out;have:=HK2.out;omega⟩,⟨by (with_reducible repeat (first|apply Kd.R_alloc|apply Kd.R_drewN|apply Kd.R_drew));exact Kd.R_mono (Kd.R_far (p:=⟨gb1006,4,none⟩) (Kd.R_types HO1017.out BK1006.out (by decide)) (fun _ hk=>hk.2) (.slice Ao58 y1015.length co58)) (fun _ hk=>trivial)⟩,⟨by (with_reducible repeat (first|refine zkN ?_ _|refine zkD ?_|refine zkA ?_ _));refine blk_far ?_ NB987_1006.out _;(with_reducible repeat (first|refine zkN ?_ _|refine zkD ?_|refine zkA ?_ _));exact BK987.out⟩,⟨by (with_reducible repeat (first|refine zkN ?_ _|refine zkD ?_|refine zkA ?_ _));refine blk_far ?_ NB990_1006.out _;(with_reducible repeat (first|refine zkN ?_ _|refine zkD ?_|refine zkA ?_ _));exact BK990.out⟩,⟨by (with_reducible repeat (first|refine zkN ?_ _|refine zkD ?_|refine zkA ?_ _));refine blk_put (cs:=#[.int .i64 t991,.int .i64 t994,.string t997,.string t1000,u1007004]) ?_ 4 _ rfl;(with_reducible repeat (first|refine zkN ?_ _|refine zkD ?_|refine zkA ?_ _));exact BK1006.out⟩,⟨by repeat (first|(with_reducible first|exact HB.out|apply zbA|apply zbN|apply zb1|refine zbS ?_ GE987.out|refine zbS ?_ GE990.out|refine zbS ?_ GE1006.out|refine zbS ?_ GE1010.out|refine zbS ?_ GE1014.out)|exact HB.out)⟩⟩
      rw [if_neg c37] at H
      exact absurd H (by simp)
     rw [if_neg c34] at H
     have c34b0 : decide (x13_2 < t1003)=false:=decide_eq_false c34
     clear c34
     by_cases c60 : x991001_2=0
     ·rw [if_pos c60] at H
      have c60b0:(x991001_2 == 0)=true:=beq_iff_eq.mpr c60
      have c60b1:(x991001_2 != 0)=false:=bne_eq_false_iff_eq.mpr c60
      clear c60
      replace H:=Option.bind_eq_some_iff.mp H
      obtain ⟨t1018,A610,H⟩:=H
      replace H:(if t1018.toList=a0.toList then (some (t991,t994,t997,t1000,x1007004_2,0)) else (some (0,0,(⟨#[]⟩:ByteArray),(⟨#[]⟩:ByteArray),([]:List (S103)),11)))=some (r1,r2,r3,r4,r5,r6):=H
      have A61:=Z0.mk A610
      clear A610
      by_cases c62 : t1018.toList=a0.toList
      ·rw [if_pos c62] at H
       have c62b0:(t1018.toList == a0.toList)=true:=beq_iff_eq.mpr c62
       have c62b1:(t1018.toList != a0.toList)=false:=bne_eq_false_iff_eq.mpr c62
       clear c62
       simp only [Option.some.injEq,Prod.mk.injEq] at H
       obtain ⟨rfl,rfl,rfl,rfl,rfl,rfl⟩:=H
       have hnb63:=NB990_987.out
       have hnc63:=NB987_990.out
       have hnb64:=NB990_1006.out
       have hnc64:=NB1006_990.out
       have hcz65_0 : wr.cell? ⟨gb990,0,none⟩=some (.string x991000_2):=(zkC BK990.out 0).trans rfl
       have hcz65_1 : wr.cell? ⟨gb990,1,none⟩=some (.int .i64 x991001_2):=(zkC BK990.out 1).trans rfl
       have hfz65_0:=zkF BK990.out 0
       have hfz65_1:=zkF BK990.out 1
       have hnb66:=NB1006_987.out
       have hnc66:=NB987_1006.out
       have hcz67_0 : wr.cell? ⟨gb1006,0,none⟩=some (.int .i64 t991):=(zkC BK1006.out 0).trans rfl
       have hcz67_1 : wr.cell? ⟨gb1006,1,none⟩=some (.int .i64 t994):=(zkC BK1006.out 1).trans rfl
       have hcz67_2 : wr.cell? ⟨gb1006,2,none⟩=some (.string t997):=(zkC BK1006.out 2).trans rfl
       have hcz67_3 : wr.cell? ⟨gb1006,3,none⟩=some (.string t1000):=(zkC BK1006.out 3).trans rfl
       have hcz67_4 : wr.cell? ⟨gb1006,4,none⟩=some (u1007004):=(zkC BK1006.out 4).trans rfl
       have hfz67_0:=zkF BK1006.out 0
       have hfz67_1:=zkF BK1006.out 1
       have hfz67_2:=zkF BK1006.out 2
       have hfz67_3:=zkF BK1006.out 3
       have hfz67_4:=zkF BK1006.out 4
       obtain ⟨Ao68,co68,eo68⟩:=Kd.R_slice HO_1007004.out
       subst eo68
       go_wp2_with (first|(go_at_call 88;(with_reducible refine (q7Encode.calls k2 t991 t994 t997 t1000 _ _ x1007004_2 a1 t1018 _ ?side1 ?side2 A61.out).mono ?_);(case side1=>repeat (first|exact (Kd.R_reads' HO_1007004.out).2.2|(with_reducible refine Kd.C_alloc ?_ _)|(with_reducible refine Kd.C_drewN ?_ _)|(with_reducible refine Kd.C_drew ?_)));(case side2=>exact (Kd.R_reads' HO_1007004.out).2.1);rintro e w69 ⟨rfl,hb⟩;have n0_:=Z0.mk (Kd.R_below (by (with_reducible repeat (first|apply Kd.R_alloc|apply Kd.R_drewN|apply Kd.R_drew));exact HO_1007004.out) hb);have n1_:=Z0.mk (blk_below (g:=gb987) (o:=.cells #[.int .i64 0,.int .i64 0,.string (⟨#[]⟩:ByteArray),.string (⟨#[]⟩:ByteArray),.slice none 0 0] 55 (0,0)) (by (with_reducible repeat (first|refine zkN ?_ _|refine zkD ?_|refine zkA ?_ _));exact BK987.out) hb);have n2_:=Z0.mk (blk_below (g:=gb990) (o:=.cells #[.string x991000_2,.int .i64 x991001_2] 69 (0,0)) (by (with_reducible repeat (first|refine zkN ?_ _|refine zkD ?_|refine zkA ?_ _));exact BK990.out) hb);have n3_:=Z0.mk (blk_below (g:=gb1006) (o:=.cells #[.int .i64 t991,.int .i64 t994,.string t997,.string t1000,.slice Ao68 x1007004_2.length co68] 55 (0,0)) (by (with_reducible repeat (first|refine zkN ?_ _|refine zkD ?_|refine zkA ?_ _));exact BK1006.out) hb);have n4_:=Z0.mk (below_step (by repeat (first|(with_reducible first|exact HB.out|apply zbA|apply zbN|apply zb1|refine zbS ?_ GE987.out|refine zbS ?_ GE990.out|refine zbS ?_ GE1006.out)|exact HB.out)) hb);clear HO_1007004;clear BK987;clear BK990;clear BK1006;clear HB;have HO_1007004:=n0_;have BK987:=n1_;have BK990:=n2_;have BK1006:=n3_;have HB:=n4_;clear n0_ n1_ n2_ n3_ n4_;(try clear hb);(try clear hb2);(try clear hk);(try clear hi);have hcz70_0 : w69.cell? ⟨gb1006,0,none⟩=some (.int .i64 t991):=(zkC BK1006.out 0).trans rfl;have hcz70_1 : w69.cell? ⟨gb1006,1,none⟩=some (.int .i64 t994):=(zkC BK1006.out 1).trans rfl;have hcz70_2 : w69.cell? ⟨gb1006,2,none⟩=some (.string t997):=(zkC BK1006.out 2).trans rfl;have hcz70_3 : w69.cell? ⟨gb1006,3,none⟩=some (.string t1000):=(zkC BK1006.out 3).trans rfl;have hcz70_4 : w69.cell? ⟨gb1006,4,none⟩=some (.slice Ao68 x1007004_2.length co68):=(zkC BK1006.out 4).trans rfl;have hfz70_0:=zkF BK1006.out 0;have hfz70_1:=zkF BK1006.out 1;have hfz70_2:=zkF BK1006.out 2;have hfz70_3:=zkF BK1006.out 3;have hfz70_4:=zkF BK1006.out 4;have hcz71_0 : w69.cell? ⟨gb987,0,none⟩=some (.int .i64 0):=(zkC BK987.out 0).trans rfl;have hcz71_1 : w69.cell? ⟨gb987,1,none⟩=some (.int .i64 0):=(zkC BK987.out 1).trans rfl;have hcz71_2 : w69.cell? ⟨gb987,2,none⟩=some (.string (⟨#[]⟩:ByteArray)):=(zkC BK987.out 2).trans rfl;have hcz71_3 : w69.cell? ⟨gb987,3,none⟩=some (.string (⟨#[]⟩:ByteArray)):=(zkC BK987.out 3).trans rfl;have hcz71_4 : w69.cell? ⟨gb987,4,none⟩=some (.slice none 0 0):=(zkC BK987.out 4).trans rfl;have hfz71_0:=zkF BK987.out 0;have hfz71_1:=zkF BK987.out 1;have hfz71_2:=zkF BK987.out 2;have hfz71_3:=zkF BK987.out 3;have hfz71_4:=zkF BK987.out 4))
       refine bodyPost_ret (results_ct rfl _ _ gb987 55 #[.int .i64 t991,.int .i64 t994,.string t997,.string t1000,.slice Ao68 x1007004_2.length co68] (0,0) _ rfl (by (with_reducible repeat (first|refine zkN ?_ _|refine zkD ?_|refine zkA ?_ _));refine blk_put (cs:=#[.int .i64 t991,.int .i64 t994,.string t997,.string t1000,.slice none 0 0]) ?_ 4 _ rfl;(with_reducible repeat (first|refine zkN ?_ _|refine zkD ?_|refine zkA ?_ _));refine blk_put (cs:=#[.int .i64 t991,.int .i64 t994,.string t997,.string (⟨#[]⟩:ByteArray),.slice none 0 0]) ?_ 3 _ rfl;(with_reducible repeat (first|refine zkN ?_ _|refine zkD ?_|refine zkA ?_ _));refine blk_put (cs:=#[.int .i64 t991,.int .i64 t994,.string (⟨#[]⟩:ByteArray),.string (⟨#[]⟩:ByteArray),.slice none 0 0]) ?_ 2 _ rfl;(with_reducible repeat (first|refine zkN ?_ _|refine zkD ?_|refine zkA ?_ _));refine blk_put (cs:=#[.int .i64 t991,.int .i64 0,.string (⟨#[]⟩:ByteArray),.string (⟨#[]⟩:ByteArray),.slice none 0 0]) ?_ 1 _ rfl;(with_reducible repeat (first|refine zkN ?_ _|refine zkD ?_|refine zkA ?_ _));refine blk_put (cs:=#[.int .i64 0,.int .i64 0,.string (⟨#[]⟩:ByteArray),.string (⟨#[]⟩:ByteArray),.slice none 0 0]) ?_ 0 _ rfl;(with_reducible repeat (first|refine zkN ?_ _|refine zkD ?_|refine zkA ?_ _));exact BK987.out) Try.underlying55 rfl (by kernel_rfl)) rfl ?_
       exact ⟨_,by first|rfl|(simp [errW_none,errW_some] <;> rfl)|(simp [*,errW_none,errW_some] <;> rfl),by (with_reducible repeat (first|apply Kd.R_alloc|apply Kd.R_drewN|apply Kd.R_drew));exact Kd.R_mono (Kd.R_far (p:=⟨gb987,4,none⟩) (Kd.R_far (p:=⟨gb987,3,none⟩) (Kd.R_far (p:=⟨gb987,2,none⟩) (Kd.R_far (p:=⟨gb987,1,none⟩) (Kd.R_far (p:=⟨gb987,0,none⟩) (Kd.R_types HO_1007004.out BK987.out (by decide)) (fun _ hk=>hk.2) (.int .i64 t991)) (fun _ hk=>hk.2) (.int .i64 t994)) (fun _ hk=>hk.2) (.string t997)) (fun _ hk=>hk.2) (.string t1000)) (fun _ hk=>hk.2) (.slice Ao68 x1007004_2.length co68)) (fun _ hk=>trivial),by repeat (first|(with_reducible first|exact HB.out|apply zbA|apply zbN|apply zb1|refine zbS ?_ GE987.out|refine zbS ?_ GE990.out|refine zbS ?_ GE1006.out)|exact HB.out)⟩
      rw [if_neg c62] at H
      have c62b0:(t1018.toList == a0.toList)=false:=beq_eq_false_iff_ne.mpr c62
      have c62b1:(t1018.toList != a0.toList)=true:=bne_iff_ne.mpr c62
      simp only [Option.some.injEq,Prod.mk.injEq] at H
      obtain ⟨rfl,rfl,rfl,rfl,rfl,rfl⟩:=H
      have hnb72:=NB990_987.out
      have hnc72:=NB987_990.out
      have hnb73:=NB990_1006.out
      have hnc73:=NB1006_990.out
      have hcz74_0 : wr.cell? ⟨gb990,0,none⟩=some (.string x991000_2):=(zkC BK990.out 0).trans rfl
      have hcz74_1 : wr.cell? ⟨gb990,1,none⟩=some (.int .i64 x991001_2):=(zkC BK990.out 1).trans rfl
      have hfz74_0:=zkF BK990.out 0
      have hfz74_1:=zkF BK990.out 1
      have hnb75:=NB1006_987.out
      have hnc75:=NB987_1006.out
      have hcz76_0 : wr.cell? ⟨gb1006,0,none⟩=some (.int .i64 t991):=(zkC BK1006.out 0).trans rfl
      have hcz76_1 : wr.cell? ⟨gb1006,1,none⟩=some (.int .i64 t994):=(zkC BK1006.out 1).trans rfl
      have hcz76_2 : wr.cell? ⟨gb1006,2,none⟩=some (.string t997):=(zkC BK1006.out 2).trans rfl
      have hcz76_3 : wr.cell? ⟨gb1006,3,none⟩=some (.string t1000):=(zkC BK1006.out 3).trans rfl
      have hcz76_4 : wr.cell? ⟨gb1006,4,none⟩=some (u1007004):=(zkC BK1006.out 4).trans rfl
      have hfz76_0:=zkF BK1006.out 0
      have hfz76_1:=zkF BK1006.out 1
      have hfz76_2:=zkF BK1006.out 2
      have hfz76_3:=zkF BK1006.out 3
      have hfz76_4:=zkF BK1006.out 4
      obtain ⟨Ao77,co77,eo77⟩:=Kd.R_slice HO_1007004.out
      subst eo77
      go_wp2_with (first|(go_at_call 88;(with_reducible refine (q7Encode.calls k2 t991 t994 t997 t1000 _ _ x1007004_2 a1 t1018 _ ?side1 ?side2 A61.out).mono ?_);(case side1=>repeat (first|exact (Kd.R_reads' HO_1007004.out).2.2|(with_reducible refine Kd.C_alloc ?_ _)|(with_reducible refine Kd.C_drewN ?_ _)|(with_reducible refine Kd.C_drew ?_)));(case side2=>exact (Kd.R_reads' HO_1007004.out).2.1);rintro e w78 ⟨rfl,hb⟩;have n0_:=Z0.mk (Kd.R_below (by (with_reducible repeat (first|apply Kd.R_alloc|apply Kd.R_drewN|apply Kd.R_drew));exact HO_1007004.out) hb);have n1_:=Z0.mk (blk_below (g:=gb987) (o:=.cells #[.int .i64 0,.int .i64 0,.string (⟨#[]⟩:ByteArray),.string (⟨#[]⟩:ByteArray),.slice none 0 0] 55 (0,0)) (by (with_reducible repeat (first|refine zkN ?_ _|refine zkD ?_|refine zkA ?_ _));exact BK987.out) hb);have n2_:=Z0.mk (blk_below (g:=gb990) (o:=.cells #[.string x991000_2,.int .i64 x991001_2] 69 (0,0)) (by (with_reducible repeat (first|refine zkN ?_ _|refine zkD ?_|refine zkA ?_ _));exact BK990.out) hb);have n3_:=Z0.mk (blk_below (g:=gb1006) (o:=.cells #[.int .i64 t991,.int .i64 t994,.string t997,.string t1000,.slice Ao77 x1007004_2.length co77] 55 (0,0)) (by (with_reducible repeat (first|refine zkN ?_ _|refine zkD ?_|refine zkA ?_ _));exact BK1006.out) hb);have n4_:=Z0.mk (below_step (by repeat (first|(with_reducible first|exact HB.out|apply zbA|apply zbN|apply zb1|refine zbS ?_ GE987.out|refine zbS ?_ GE990.out|refine zbS ?_ GE1006.out)|exact HB.out)) hb);clear HO_1007004;clear BK987;clear BK990;clear BK1006;clear HB;have HO_1007004:=n0_;have BK987:=n1_;have BK990:=n2_;have BK1006:=n3_;have HB:=n4_;clear n0_ n1_ n2_ n3_ n4_;(try clear hb);(try clear hb2);(try clear hk);(try clear hi);have hcz79_0 : w78.cell? ⟨gb987,0,none⟩=some (.int .i64 0):=(zkC BK987.out 0).trans rfl;have hcz79_1 : w78.cell? ⟨gb987,1,none⟩=some (.int .i64 0):=(zkC BK987.out 1).trans rfl;have hcz79_2 : w78.cell? ⟨gb987,2,none⟩=some (.string (⟨#[]⟩:ByteArray)):=(zkC BK987.out 2).trans rfl;have hcz79_3 : w78.cell? ⟨gb987,3,none⟩=some (.string (⟨#[]⟩:ByteArray)):=(zkC BK987.out 3).trans rfl;have hcz79_4 : w78.cell? ⟨gb987,4,none⟩=some (.slice none 0 0):=(zkC BK987.out 4).trans rfl;have hfz79_0:=zkF BK987.out 0;have hfz79_1:=zkF BK987.out 1;have hfz79_2:=zkF BK987.out 2;have hfz79_3:=zkF BK987.out 3;have hfz79_4:=zkF BK987.out 4))
      refine bodyPost_ret (results_ct rfl _ _ gb987 55 #[.int .i64 0,.int .i64 0,.string (⟨#[]⟩:ByteArray),.string (⟨#[]⟩:ByteArray),.slice none 0 0] (0,0) _ rfl (by (with_reducible repeat (first|refine zkN ?_ _|refine zkD ?_|refine zkA ?_ _));refine blk_put (cs:=#[.int .i64 0,.int .i64 0,.string (⟨#[]⟩:ByteArray),.string (⟨#[]⟩:ByteArray),.slice none 0 0]) ?_ 4 _ rfl;(with_reducible repeat (first|refine zkN ?_ _|refine zkD ?_|refine zkA ?_ _));refine blk_put (cs:=#[.int .i64 0,.int .i64 0,.string (⟨#[]⟩:ByteArray),.string (⟨#[]⟩:ByteArray),.slice none 0 0]) ?_ 3 _ rfl;(with_reducible repeat (first|refine zkN ?_ _|refine zkD ?_|refine zkA ?_ _));refine blk_put (cs:=#[.int .i64 0,.int .i64 0,.string (⟨#[]⟩:ByteArray),.string (⟨#[]⟩:ByteArray),.slice none 0 0]) ?_ 2 _ rfl;(with_reducible repeat (first|refine zkN ?_ _|refine zkD ?_|refine zkA ?_ _));refine blk_put (cs:=#[.int .i64 0,.int .i64 0,.string (⟨#[]⟩:ByteArray),.string (⟨#[]⟩:ByteArray),.slice none 0 0]) ?_ 1 _ rfl;(with_reducible repeat (first|refine zkN ?_ _|refine zkD ?_|refine zkA ?_ _));refine blk_put (cs:=#[.int .i64 0,.int .i64 0,.string (⟨#[]⟩:ByteArray),.string (⟨#[]⟩:ByteArray),.slice none 0 0]) ?_ 0 _ rfl;(with_reducible repeat (first|refine zkN ?_ _|refine zkD ?_|refine zkA ?_ _));exact BK987.out) Try.underlying55 rfl (by kernel_rfl)) rfl ?_
      exact ⟨_,by first|rfl|(simp [errW_none,errW_some] <;> rfl)|(simp [*,errW_none,errW_some] <;> rfl),by first|exact Kd.R_nil _ _ _ _ _|exact Kd.N_nil _ _ _ _ _|exact Kd.V_nil _ _ _ _ _|exact Kd.Q_nil _ _ _ _ _|exact Kd.S_nil _ _ _ _ _,by repeat (first|(with_reducible first|exact HB.out|apply zbA|apply zbN|apply zb1|refine zbS ?_ GE987.out|refine zbS ?_ GE990.out|refine zbS ?_ GE1006.out)|exact HB.out)⟩
     rw [if_neg c60] at H
     have c60b0:(x991001_2 == 0)=false:=beq_eq_false_iff_ne.mpr c60
     have c60b1:(x991001_2 != 0)=true:=bne_iff_ne.mpr c60
     simp only [Option.some.injEq,Prod.mk.injEq] at H
     obtain ⟨rfl,rfl,rfl,rfl,rfl,rfl⟩:=H
     have hnb80:=NB990_987.out
     have hnc80:=NB987_990.out
     have hnb81:=NB990_1006.out
     have hnc81:=NB1006_990.out
     have hcz82_0 : wr.cell? ⟨gb990,0,none⟩=some (.string x991000_2):=(zkC BK990.out 0).trans rfl
     have hcz82_1 : wr.cell? ⟨gb990,1,none⟩=some (.int .i64 x991001_2):=(zkC BK990.out 1).trans rfl
     have hfz82_0:=zkF BK990.out 0
     have hfz82_1:=zkF BK990.out 1
     have hnb83:=NB987_1006.out
     have hnc83:=NB1006_987.out
     have hcz84_0 : wr.cell? ⟨gb987,0,none⟩=some (.int .i64 0):=(zkC BK987.out 0).trans rfl
     have hcz84_1 : wr.cell? ⟨gb987,1,none⟩=some (.int .i64 0):=(zkC BK987.out 1).trans rfl
     have hcz84_2 : wr.cell? ⟨gb987,2,none⟩=some (.string (⟨#[]⟩:ByteArray)):=(zkC BK987.out 2).trans rfl
     have hcz84_3 : wr.cell? ⟨gb987,3,none⟩=some (.string (⟨#[]⟩:ByteArray)):=(zkC BK987.out 3).trans rfl
     have hcz84_4 : wr.cell? ⟨gb987,4,none⟩=some (.slice none 0 0):=(zkC BK987.out 4).trans rfl
     have hfz84_0:=zkF BK987.out 0
     have hfz84_1:=zkF BK987.out 1
     have hfz84_2:=zkF BK987.out 2
     have hfz84_3:=zkF BK987.out 3
     have hfz84_4:=zkF BK987.out 4
     go_wp2
     refine bodyPost_ret (results_ct rfl _ _ gb987 55 #[.int .i64 0,.int .i64 0,.string (⟨#[]⟩:ByteArray),.string (⟨#[]⟩:ByteArray),.slice none 0 0] (0,0) _ rfl (by (with_reducible repeat (first|refine zkN ?_ _|refine zkD ?_|refine zkA ?_ _));refine blk_put (cs:=#[.int .i64 0,.int .i64 0,.string (⟨#[]⟩:ByteArray),.string (⟨#[]⟩:ByteArray),.slice none 0 0]) ?_ 4 _ rfl;(with_reducible repeat (first|refine zkN ?_ _|refine zkD ?_|refine zkA ?_ _));refine blk_put (cs:=#[.int .i64 0,.int .i64 0,.string (⟨#[]⟩:ByteArray),.string (⟨#[]⟩:ByteArray),.slice none 0 0]) ?_ 3 _ rfl;(with_reducible repeat (first|refine zkN ?_ _|refine zkD ?_|refine zkA ?_ _));refine blk_put (cs:=#[.int .i64 0,.int .i64 0,.string (⟨#[]⟩:ByteArray),.string (⟨#[]⟩:ByteArray),.slice none 0 0]) ?_ 2 _ rfl;(with_reducible repeat (first|refine zkN ?_ _|refine zkD ?_|refine zkA ?_ _));refine blk_put (cs:=#[.int .i64 0,.int .i64 0,.string (⟨#[]⟩:ByteArray),.string (⟨#[]⟩:ByteArray),.slice none 0 0]) ?_ 1 _ rfl;(with_reducible repeat (first|refine zkN ?_ _|refine zkD ?_|refine zkA ?_ _));refine blk_put (cs:=#[.int .i64 0,.int .i64 0,.string (⟨#[]⟩:ByteArray),.string (⟨#[]⟩:ByteArray),.slice none 0 0]) ?_ 0 _ rfl;(with_reducible repeat (first|refine zkN ?_ _|refine zkD ?_|refine zkA ?_ _));exact BK987.out) Try.underlying55 rfl (by kernel_rfl)) rfl ?_
     exact ⟨_,by first|rfl|(simp [errW_none,errW_some] <;> rfl)|(simp [*,errW_none,errW_some] <;> rfl),by first|exact Kd.R_nil _ _ _ _ _|exact Kd.N_nil _ _ _ _ _|exact Kd.V_nil _ _ _ _ _|exact Kd.Q_nil _ _ _ _ _|exact Kd.S_nil _ _ _ _ _,by repeat (first|(with_reducible first|exact HB.out|apply zbA|apply zbN|apply zb1|refine zbS ?_ GE987.out|refine zbS ?_ GE990.out|refine zbS ?_ GE1006.out)|exact HB.out)⟩
end Go.Proofs.Ytegefemkmdlmaaa.P
