import Derived.Test.YtegefemkmdlmaaaF0
import Derived.Lib.Hide
import Derived.Outline
import Derived.Laws.CopyOwn
section
namespace Go.Proofs.Ytegefemkmdlmaaa.P
open Go.RowKit Go.Proofs.YtegefemkmdlmaaaW.PrintWords Go.Proofs.YtegefemkmdlmaaaW.PrintLast Go.Proofs.YtegefemkmdlmaaaW.PrintMore
attribute [local go_sem] max2_int min2_int max_two min_two max_three min_three max_four min_four
set_option linter.unusedVariables false
set_option linter.unusedSimpArgs false
theorem eqA103 (d:Nat) (w:World) (x0 y0:Int) (x1 y1:Int) :
  (Op.equalIn (d + 2) 103 (.agg #[.int .i64 x0,.int .i64 x1]) (.agg #[.int .i64 y0,.int .i64 y1])).run Try.prog w=.ok (x0 == y0 && (x1 == y1)) w:=by
 refine eqA_of Try.underlying103 (by kernel_rfl) ?_
 refine eqf_cons (by rfl) (by go_simp;rfl) (by go_simp;rfl) (by go_simp) ?_
 exact eqf_last (by rfl) (by go_simp;rfl) (by go_simp;rfl) (by go_simp)
end Go.Proofs.Ytegefemkmdlmaaa.P
end
section
namespace Go.Proofs.Ytegefemkmdlmaaa.P
open Go.RowKit Go.Proofs.YtegefemkmdlmaaaW.PrintWords Go.Proofs.YtegefemkmdlmaaaW.PrintLast Go.Proofs.YtegefemkmdlmaaaW.PrintMore
attribute [local go_sem] max2_int min2_int max_two min_two max_three min_three max_four min_four
set_option linter.unusedVariables false
set_option linter.unusedSimpArgs false
attribute [local go_sem high] eqA103
def q5Same.l0:Nat→List (S103)→List (S103)→Int→Option (Bool)
 | 0,_,_,_=>none
 | k + 1,x0,x1,x5=>if x5 < (x0.length:Int) then (if 0≤x5 then (if x5 < (x1.length:Int) then (if (!(((rd_T103 x0 x5).f0) == ((rd_T103 x1 x5).f0)) || (!(((rd_T103 x0 x5).f1) == ((rd_T103 x1 x5).f1))))=true then (some false) else (q5Same.l0 k x0 x1 (wrap64 (x5 + 1)))) else (none)) else (none)) else (some true)
def q5Same.f (k:Nat) (l0:List (S103)) (l1:List (S103)):Option (Bool):=if (l0.length:Int)=(l1.length:Int) then (q5Same.l0 k l0 l1 0) else (some false)
theorem q5Same.mono_l:∀ k,(∀ y0 y1 y2,LeO (q5Same.l0 k y0 y1 y2) (q5Same.l0 (k + 1) y0 y1 y2))
 | 0=>fun _ _ _ r h=>by simp [q5Same.l0] at h
 | k + 1=>by
  have ih0:=q5Same.mono_l k
  ·intro y0 y1 y2
   unfold q5Same.l0
   repeat' first
   | (with_reducible exact ih0 _ _ _)
   | (with_reducible exact LeO.refl _)
   | (with_reducible exact LeO.none _)
   | (with_reducible refine LeO.ite ?_ ?_)
   | (with_reducible refine LeO.bind ?_ (fun _=>?_))
   | exact ih0 _ _ _
   | exact LeO.none _
   | refine LeO.ite ?_ ?_
   | refine LeO.bind ?_ (fun _=>?_)
theorem q5Same.mono:∀ a0 a1 k,LeO (q5Same.f k a0 a1) (q5Same.f (k + 1) a0 a1):=by
 intro a0 a1 k
 have ih0:=q5Same.mono_l k
 unfold q5Same.f
 repeat' first
   | (with_reducible exact ih0 _ _ _)
   | (with_reducible exact LeO.refl _)
   | (with_reducible exact LeO.none _)
   | (with_reducible refine LeO.ite ?_ ?_)
   | (with_reducible refine LeO.bind ?_ (fun _=>?_))
   | exact ih0 _ _ _
   | exact LeO.none _
   | refine LeO.ite ?_ ?_
   | refine LeO.bind ?_ (fun _=>?_)
set_option maxHeartbeats 8000000 in
set_option maxRecDepth 100000 in
theorem q5Same.calls (k:Nat) (A0:Option Addr) (c0:Nat) (l0:List (S103)) (A1:Option Addr) (c1:Nat) (l1:List (S103)) (r:Bool) (w:World) (hr0:Kd.C k103 w A0 l0.length l0) (hc0 : l0.length≤c0) (hr1:Kd.C k103 w A1 l1.length l1) (hc1 : l1.length≤c1) (h : q5Same.f k l0 l1=some r) :
  Calls Try.prog 37 #[.slice A0 l0.length c0,.slice A1 l1.length c1] w fun e w'=>e=.returned (.bool r)∧Drawn0 w w':=by
 have hu103:=Try.underlying103
 have HR0:=Z0.mk hr0
 have HC0:=Z0.mk hc0
 clear hr0 hc0
 have HR1:=Z0.mk hr1
 have HC1:=Z0.mk hc1
 clear hr1 hc1
 have H:(if (l0.length:Int)=(l1.length:Int) then (q5Same.l0 k l0 l1 0) else (some false))=some r:=h
 clear h
 by_cases c3:(l0.length:Int)=(l1.length:Int)
 ·rw [if_pos c3] at H
  have c3b0:((l0.length:Int) == (l1.length:Int))=true:=beq_iff_eq.mpr c3
  have c3b1:((l0.length:Int) != (l1.length:Int))=false:=bne_eq_false_iff_eq.mpr c3
  have c3b2:(l0.length == l1.length)=true:=by first|simpa using c3|(simp at c3 ⊢;omega)
  clear c3
  have H':=Z0.mk H
  clear H
  go_enter Try.func37,Try.ntmps37
  go_wp2
  repeat (go_quiet (fail);try go_wp2)
  go_loopg [5] k (fun kq v5 w'=>∃ (x5_1:Int),v5=.int .i64 x5_1∧Z0 (q5Same.l0 kq l0 l1 x5_1=some r)∧Z0 (kq≤k)∧Drawn0 w w')
  case atStart=>exact ⟨(0),(by first|rfl|(simp;done)|(simp [*];done)),H',⟨Nat.le_refl _⟩,by repeat (first|exact Drawn0.refl _|apply Drawn0.step)⟩
  case round =>
   clear H'
   try clear c1
   try clear p2
   try clear c3
   try clear c3b0
   try clear c3b1
   try clear c3b2
   obtain ⟨x5_1,rfl,HA,HK1,⟨m1,rfl⟩⟩:=hrel
   cases gk with
   | zero=>exact absurd HA.out (by simp [q5Same.l0])
   | succ k1 =>
    have H:=HA.out
    clear HA
    simp only [q5Same.l0] at H
    by_cases c4 : x5_1 < (l0.length:Int)
    ·rw [if_pos c4] at H
     have c4b0 : decide (x5_1 < (l0.length:Int))=true:=decide_eq_true c4
     clear c4
     by_cases c5 : 0≤x5_1
     ·rw [if_pos c5] at H
      have c5b0 : decide (0≤x5_1)=true:=decide_eq_true c5
      clear c5
      by_cases c6 : x5_1 < (l1.length:Int)
      ·rw [if_pos c6] at H
       have c6b0 : decide (x5_1 < (l1.length:Int))=true:=decide_eq_true c6
       clear c6
       by_cases c7:(!(((rd_T103 l0 x5_1).f0) == ((rd_T103 l1 x5_1).f0)) || (!(((rd_T103 l0 x5_1).f1) == ((rd_T103 l1 x5_1).f1))))=true
       ·rw [if_pos c7] at H
        have c7b0:(!(((rd_T103 l0 x5_1).f0) == ((rd_T103 l1 x5_1).f0)) || (!(((rd_T103 l0 x5_1).f1) == ((rd_T103 l1 x5_1).f1))))=true:=c7
        clear c7
        obtain rfl:=Option.some.inj H
        have p141 : 0≤(x5_1:Int):=of_decide_eq_true (by first|(with_reducible assumption)|assumption)
        have q141 : x5_1 < (l0.length:Int):=of_decide_eq_true (by first|(with_reducible assumption)|assumption)
        obtain ⟨ad141,e141,hx141_0,hx141_1⟩:=at_T103 HR0.out x5_1 p141 q141
        cases e141
        replace p141:=eq_true p141
        replace q141:=eq_true q141
        have p142 : 0≤(x5_1:Int):=of_decide_eq_true (by first|(with_reducible assumption)|assumption)
        have q142 : x5_1 < (l1.length:Int):=of_decide_eq_true (by first|(with_reducible assumption)|assumption)
        obtain ⟨ad142,e142,hx142_0,hx142_1⟩:=at_T103 HR1.out x5_1 p142 q142
        cases e142
        replace p142:=eq_true p142
        replace q142:=eq_true q142
        go_wp2
        repeat (go_quiet (fail);try go_wp2)
        go_ret
        exact ⟨by first|rfl|(simp;done)|(simp [*];done),by repeat (first|exact Drawn0.refl _|apply Drawn0.step)⟩
       rw [if_neg c7] at H
       have c7b0:(!(((rd_T103 l0 x5_1).f0) == ((rd_T103 l1 x5_1).f0)) || (!(((rd_T103 l0 x5_1).f1) == ((rd_T103 l1 x5_1).f1))))=false:=by simpa using c7
       clear c7
       have H':=Z0.mk H
       clear H
       have p141 : 0≤(x5_1:Int):=of_decide_eq_true (by first|(with_reducible assumption)|assumption)
       have q141 : x5_1 < (l0.length:Int):=of_decide_eq_true (by first|(with_reducible assumption)|assumption)
       obtain ⟨ad141,e141,hx141_0,hx141_1⟩:=at_T103 HR0.out x5_1 p141 q141
       cases e141
       replace p141:=eq_true p141
       replace q141:=eq_true q141
       have p142 : 0≤(x5_1:Int):=of_decide_eq_true (by first|(with_reducible assumption)|assumption)
       have q142 : x5_1 < (l1.length:Int):=of_decide_eq_true (by first|(with_reducible assumption)|assumption)
       obtain ⟨ad142,e142,hx142_0,hx142_1⟩:=at_T103 HR1.out x5_1 p142 q142
       cases e142
       replace p142:=eq_true p142
       replace q142:=eq_true q142
       go_wp2
       repeat (go_quiet (fail);try go_wp2)
       go_roundg k1
       case measure=>have:=HK1.out;omega
       case rel=>exact ⟨(wrap64 (x5_1 + 1)),(by first|rfl|(simp;done)|(simp [*];done)),H',⟨by have:=HK1.out;omega⟩,by repeat (first|exact Drawn0.refl _|apply Drawn0.step)⟩
      rw [if_neg c6] at H
      exact absurd H (by simp)
     rw [if_neg c5] at H
     exact absurd H (by simp)
    rw [if_neg c4] at H
    have c4b0 : decide (x5_1 < (l0.length:Int))=false:=decide_eq_false c4
    clear c4
    obtain rfl:=Option.some.inj H
    go_wp2
    repeat (go_quiet (fail);try go_wp2)
    go_ret
    exact ⟨by first|rfl|(simp;done)|(simp [*];done),by repeat (first|exact Drawn0.refl _|apply Drawn0.step)⟩
 rw [if_neg c3] at H
 have c3b0:((l0.length:Int) == (l1.length:Int))=false:=beq_eq_false_iff_ne.mpr c3
 have c3b1:((l0.length:Int) != (l1.length:Int))=true:=bne_iff_ne.mpr c3
 have c3b2:(l0.length == l1.length)=false:=by first|simpa using c3|(simp at c3 ⊢;omega)
 obtain rfl:=Option.some.inj H
 go_enter Try.func37,Try.ntmps37
 go_wp2
 repeat (go_quiet (fail);try go_wp2)
 go_ret
 exact ⟨by first|rfl|(simp;done)|(simp [*];done),by repeat (first|exact Drawn0.refl _|apply Drawn0.step)⟩
end Go.Proofs.Ytegefemkmdlmaaa.P
end
section
namespace Go.Proofs.Ytegefemkmdlmaaa.P
open Go.RowKit Go.Proofs.YtegefemkmdlmaaaW.PrintWords Go.Proofs.YtegefemkmdlmaaaW.PrintLast Go.Proofs.YtegefemkmdlmaaaW.PrintMore
attribute [local go_sem] max2_int min2_int max_two min_two max_three min_three max_four min_four
set_option linter.unusedVariables false
set_option linter.unusedSimpArgs false
mutual
def extent_clip.j0:Nat→Bool→Int→Int→Option (Int×Int)
 | 0,_,_,_=>none
 | k + 1,x12,x144000,x144001=>if x12=true then (some (0,0)) else (if x144000 < 0 then (extent_clip.j1 k 128 true x144000 x144001) else (extent_clip.j1 k 128 (decide (x144001 < (wrap64 (128 - x144000)))) x144000 x144001))
def extent_clip.j1:Nat→Int→Bool→Int→Int→Option (Int×Int)
 | 0,_,_,_,_=>none
 | k + 1,x3,x24,x144000,x144001=>if x24=true then (if (mn 128 (wrap64 (x144000 + x144001)))≤(mx 0 x144000) then (some (0,0)) else (some (mx 0 x144000,wrap64 ((mn 128 (wrap64 (x144000 + x144001))) - (mx 0 x144000))))) else (if x3≤(mx 0 x144000) then (some (0,0)) else (some (mx 0 x144000,wrap64 (x3 - (mx 0 x144000)))))
end
def extent_clip.f (k:Nat) (a0_0:Int) (a0_1:Int):Option (Int×Int):=if a0_1 < 1 then (extent_clip.j0 k true a0_0 a0_1) else (extent_clip.j0 k (decide (a0_0 ≥ 128)) a0_0 a0_1)
theorem extent_clip.mono_l:∀ k,(∀ y0 y1 y2,LeO (extent_clip.j0 k y0 y1 y2) (extent_clip.j0 (k + 1) y0 y1 y2))∧(∀ y0 y1 y2 y3,LeO (extent_clip.j1 k y0 y1 y2 y3) (extent_clip.j1 (k + 1) y0 y1 y2 y3))
 | 0=>⟨fun _ _ _ r h=>by simp [extent_clip.j0] at h,fun _ _ _ _ r h=>by simp [extent_clip.j1] at h⟩
 | k + 1=>by
  obtain ⟨ih0,ih1⟩:=extent_clip.mono_l k
  refine ⟨?_,?_⟩
  ·intro y0 y1 y2
   unfold extent_clip.j0
   repeat' first
   | (with_reducible exact ih0 _ _ _)
   | (with_reducible exact ih1 _ _ _ _)
   | (with_reducible exact LeO.refl _)
   | (with_reducible exact LeO.none _)
   | (with_reducible refine LeO.ite ?_ ?_)
   | (with_reducible refine LeO.bind ?_ (fun _=>?_))
   | exact ih0 _ _ _
   | exact ih1 _ _ _ _
   | exact LeO.none _
   | refine LeO.ite ?_ ?_
   | refine LeO.bind ?_ (fun _=>?_)
  intro y0 y1 y2 y3
  unfold extent_clip.j1
  repeat' first
  | (with_reducible exact ih0 _ _ _)
  | (with_reducible exact ih1 _ _ _ _)
  | (with_reducible exact LeO.refl _)
  | (with_reducible exact LeO.none _)
  | (with_reducible refine LeO.ite ?_ ?_)
  | (with_reducible refine LeO.bind ?_ (fun _=>?_))
  | exact ih0 _ _ _
  | exact ih1 _ _ _ _
  | exact LeO.none _
  | refine LeO.ite ?_ ?_
  | refine LeO.bind ?_ (fun _=>?_)
theorem extent_clip.mono:∀ a0 a1 k,LeO (extent_clip.f k a0 a1) (extent_clip.f (k + 1) a0 a1):=by
 intro a0 a1 k
 obtain ⟨ih0,ih1⟩:=extent_clip.mono_l k
 unfold extent_clip.f
 repeat' first
   | (with_reducible exact ih0 _ _ _)
   | (with_reducible exact ih1 _ _ _ _)
   | (with_reducible exact LeO.refl _)
   | (with_reducible exact LeO.none _)
   | (with_reducible refine LeO.ite ?_ ?_)
   | (with_reducible refine LeO.bind ?_ (fun _=>?_))
   | exact ih0 _ _ _
   | exact ih1 _ _ _ _
   | exact LeO.none _
   | refine LeO.ite ?_ ?_
   | refine LeO.bind ?_ (fun _=>?_)
set_option maxHeartbeats 8000000 in
set_option maxRecDepth 100000 in
theorem extent_clip.calls (k:Nat) (a0_0:Int) (a0_1:Int) (r1:Int) (r2:Int) (w:World) (h : extent_clip.f k a0_0 a0_1=some (r1,r2)) :
  Calls Try.prog 95 #[.agg #[.int .i64 a0_0,.int .i64 a0_1]] w fun e w'=>e=.returned (.agg #[.int .i64 r1,.int .i64 r2])∧Below w.heap.size w w':=by
 have hu103:=Try.underlying103
 have HB:=Z0.mk (Below.refl w.heap.size w)
 have H:(if a0_1 < 1 then (extent_clip.j0 k true a0_0 a0_1) else (extent_clip.j0 k (decide (a0_0 ≥ 128)) a0_0 a0_1))=some (r1,r2):=h
 clear h
 have HC2:=Z0.mk H
 clear H
 go_enter Try.func95,Try.ntmps95
 go_upto_region 1 with (first|((with_reducible refine gate_dst (N:=1) rfl ?_);refine box_event ?hg (N:=1) ?hd (cs:=#[.int .i64 a0_0,.int .i64 a0_1]) (t:=103) ?hr ?_;(case hd=>rfl);(case hg=>rfl);(case hr=>first|(go_simp;done)|(go_simp;rfl));intro gb143 hg w3 hbox hb;have n0_:=Z0.mk (below_step (by repeat (first|(with_reducible first|exact HB.out|apply zbA|apply zbN|apply zb1)|exact HB.out)) hb);have n1_:=Z0.mk (hbox);have n2_:=Z0.mk ((by rw [hg];exact (below_size (by repeat (first|(with_reducible first|exact HB.out|apply zbA|apply zbN|apply zb1)|exact HB.out))) : w.heap.size≤gb143));have n3_:=Z0.mk ((by rw [hg];exact (below_size (by repeat (first|(with_reducible first|exact HB.out|apply zbA|apply zbN|apply zb1)|exact HB.out))) : w.heap.size≤gb143));clear HB;have HB:=n0_;have BK143:=n1_;have GW143:=n2_;have GE143:=n3_;clear n0_ n1_ n2_ n3_;clear hb hbox hg)|((with_reducible refine gate_dst (N:=2) rfl ?_);refine box_event ?hg (N:=2) ?hd (cs:=#[.int .i64 0,.int .i64 0]) (t:=103) ?hr ?_;(case hd=>rfl);(case hg=>rfl);(case hr=>first|(go_simp;done)|(go_simp;rfl));intro gb144 hg w4 hbox hb;have n0_:=Z0.mk (blk_below (g:=gb143) (o:=.cells #[.int .i64 a0_0,.int .i64 a0_1] 103 (0,0)) (by (with_reducible repeat (first|refine zkN ?_ _|refine zkD ?_|refine zkA ?_ _));exact BK143.out) hb);have n1_:=Z0.mk (below_step (by repeat (first|(with_reducible first|exact HB.out|apply zbA|apply zbN|apply zb1|refine zbS ?_ GE143.out)|exact HB.out)) hb);have n2_:=Z0.mk (hbox);have n3_:=Z0.mk ((by rw [hg];exact (below_size (by repeat (first|(with_reducible first|exact HB.out|apply zbA|apply zbN|apply zb1|refine zbS ?_ GE143.out)|exact HB.out))) : w.heap.size≤gb144));have n4_:=Z0.mk ((by rw [hg];exact (below_size (by repeat (first|(with_reducible first|exact HB.out|apply zbA|apply zbN|apply zb1|refine zbS ?_ GE143.out)|exact HB.out))) : w.heap.size≤gb144));have n5_:=Z0.mk ((by rw [hg];exact Nat.ne_of_lt (blk_lt (g:=gb143) (o:=.cells #[.int .i64 a0_0,.int .i64 a0_1] 103 (0,0)) (by (with_reducible repeat (first|refine zkN ?_ _|refine zkD ?_|refine zkA ?_ _));exact BK143.out)) : gb143 ≠ gb144));have n6_:=Z0.mk ((by rw [hg];exact Nat.ne_of_gt (blk_lt (g:=gb143) (o:=.cells #[.int .i64 a0_0,.int .i64 a0_1] 103 (0,0)) (by (with_reducible repeat (first|refine zkN ?_ _|refine zkD ?_|refine zkA ?_ _));exact BK143.out)) : gb144 ≠ gb143));clear BK143;clear HB;have BK143:=n0_;have HB:=n1_;have BK144:=n2_;have GW144:=n3_;have GE144:=n4_;have NB143_144:=n5_;have NB144_143:=n6_;clear n0_ n1_ n2_ n3_ n4_ n5_ n6_;clear hb hbox hg))
 (try simp only [Act.put,List.setIfInBounds_toArray,List.set_cons_zero,List.set_cons_succ])
 go_cut [12] (fun v12 wc=>∃ (kq:Nat) (x12_1:Bool),v12=.bool x12_1∧Z0 (extent_clip.j0 kq x12_1 a0_0 a0_1=some (r1,r2))∧Z0 (kq≤k)∧Z0 (wc.heap[gb143]?=some (.cells #[.int .i64 a0_0,.int .i64 a0_1] 103 (0,0)))∧Z0 (wc.heap[gb144]?=some (.cells #[.int .i64 0,.int .i64 0] 103 (0,0)))∧Z0 (Below w.heap.size w wc))
 case first =>
  have H:=HC2.out
  clear HC2
  by_cases c5 : a0_1 < 1
  ·rw [if_pos c5] at H
   have c5b0 : decide (a0_1 < 1)=true:=decide_eq_true c5
   clear c5
   (first|rw [c5b0]|(simp only [i64_w,i32_w];rw [c5b0])|skip)
   have H':=Z0.mk H
   clear H
   have hnb6:=NB143_144.out
   have hnc6:=NB144_143.out
   have hcz7_0 : w4.cell? ⟨gb143,0,none⟩=some (.int .i64 a0_0):=(zkC BK143.out 0).trans rfl
   have hcz7_1 : w4.cell? ⟨gb143,1,none⟩=some (.int .i64 a0_1):=(zkC BK143.out 1).trans rfl
   have hfz7_0:=zkF BK143.out 0
   have hfz7_1:=zkF BK143.out 1
   go_wp2
   go_meet
   case rel=>exact ⟨_,(true),(by first|rfl|(simp;done)|(simp [*];done)),H',⟨by first|omega|exact Nat.le_refl _⟩,⟨by (with_reducible repeat (first|refine zkN ?_ _|refine zkD ?_|refine zkA ?_ _));exact BK143.out⟩,⟨by (with_reducible repeat (first|refine zkN ?_ _|refine zkD ?_|refine zkA ?_ _));exact BK144.out⟩,⟨by repeat (first|(with_reducible first|exact HB.out|apply zbA|apply zbN|apply zb1|refine zbS ?_ GE143.out|refine zbS ?_ GE144.out)|exact HB.out)⟩⟩
  rw [if_neg c5] at H
  have c5b0 : decide (a0_1 < 1)=false:=decide_eq_false c5
  clear c5
  (first|rw [c5b0]|(simp only [i64_w,i32_w];rw [c5b0])|skip)
  have H':=Z0.mk H
  clear H
  have hnb8:=NB143_144.out
  have hnc8:=NB144_143.out
  have hcz9_0 : w4.cell? ⟨gb143,0,none⟩=some (.int .i64 a0_0):=(zkC BK143.out 0).trans rfl
  have hcz9_1 : w4.cell? ⟨gb143,1,none⟩=some (.int .i64 a0_1):=(zkC BK143.out 1).trans rfl
  have hfz9_0:=zkF BK143.out 0
  have hfz9_1:=zkF BK143.out 1
  go_wp2
  go_meet
  case rel=>exact ⟨_,(decide (a0_0 ≥ 128)),(by first|rfl|(simp;done)|(simp [*];done)),H',⟨by first|omega|exact Nat.le_refl _⟩,⟨by (with_reducible repeat (first|refine zkN ?_ _|refine zkD ?_|refine zkA ?_ _));exact BK143.out⟩,⟨by (with_reducible repeat (first|refine zkN ?_ _|refine zkD ?_|refine zkA ?_ _));exact BK144.out⟩,⟨by repeat (first|(with_reducible first|exact HB.out|apply zbA|apply zbN|apply zb1|refine zbS ?_ GE143.out|refine zbS ?_ GE144.out)|exact HB.out)⟩⟩
 case rest =>
  clear HC2
  try clear p2
  try clear c5
  try clear c5b0
  try clear c6
  try clear c8
  try clear c9
  try clear hcz7_0
  try clear hcz7_1
  try clear hcz9_0
  try clear hcz9_1
  try clear hfz7_0
  try clear hfz7_1
  try clear hfz9_0
  try clear hfz9_1
  obtain ⟨kq,x12_1,rfl,HA,HJ1,BK143,BK144,HB⟩:=hcut
  cases kq with
  | zero=>exact absurd HA.out (by simp [extent_clip.j0])
  | succ kj1 =>
   have H:=HA.out
   clear HA
   simp only [extent_clip.j0] at H
   by_cases c10 : x12_1=true
   ·subst c10
    have H1:(some (0,0))=some (r1,r2):=by rw [if_pos rfl] at H;exact H
    clear H
    have H:=H1
    clear H1
    simp only [Option.some.injEq,Prod.mk.injEq] at H
    obtain ⟨rfl,rfl⟩:=H
    have hnb11:=NB144_143.out
    have hnc11:=NB143_144.out
    have hcz12_0 : wc.cell? ⟨gb144,0,none⟩=some (.int .i64 0):=(zkC BK144.out 0).trans rfl
    have hcz12_1 : wc.cell? ⟨gb144,1,none⟩=some (.int .i64 0):=(zkC BK144.out 1).trans rfl
    have hfz12_0:=zkF BK144.out 0
    have hfz12_1:=zkF BK144.out 1
    go_wp2
    refine bodyPost_ret (results_cell_row rfl _ _ gb144 103 #[.int .i64 0,.int .i64 0] (0,0) _ rfl (by (with_reducible repeat (first|refine zkN ?_ _|refine zkD ?_|refine zkA ?_ _));refine blk_put (cs:=#[.int .i64 0,.int .i64 0]) ?_ 1 _ rfl;(with_reducible repeat (first|refine zkN ?_ _|refine zkD ?_|refine zkA ?_ _));refine blk_put (cs:=#[.int .i64 0,.int .i64 0]) ?_ 0 _ rfl;(with_reducible repeat (first|refine zkN ?_ _|refine zkD ?_|refine zkA ?_ _));exact BK144.out) Try.underlying103 rfl (by kernel_rfl)) rfl ?_
    exact ⟨by first|rfl|(simp [errW_none,errW_some] <;> rfl)|(simp [*,errW_none,errW_some] <;> rfl),by repeat (first|(with_reducible first|exact HB.out|apply zbA|apply zbN|apply zb1|refine zbS ?_ GE143.out|refine zbS ?_ GE144.out)|exact HB.out)⟩
   replace c10:=Bool.eq_false_iff.mpr c10
   subst c10
   have H1:(if a0_0 < 0 then (extent_clip.j1 kj1 128 true a0_0 a0_1) else (extent_clip.j1 kj1 128 (decide (a0_1 < (wrap64 (128 - a0_0)))) a0_0 a0_1))=some (r1,r2):=by rw [if_neg (show ¬ (false=true) by decide)] at H;exact H
   clear H
   have H:=H1
   clear H1
   have HC13:=Z0.mk H
   clear H
   go_upto_region 4 with (fail)
   go_cut [24] (fun v24 wc=>∃ (kq:Nat) (x24_12:Bool),v24=.bool x24_12∧Z0 (extent_clip.j1 kq 128 x24_12 a0_0 a0_1=some (r1,r2))∧Z0 (kq≤kj1)∧Z0 (wc.heap[gb143]?=some (.cells #[.int .i64 a0_0,.int .i64 a0_1] 103 (0,0)))∧Z0 (wc.heap[gb144]?=some (.cells #[.int .i64 0,.int .i64 0] 103 (0,0)))∧Z0 (Below w.heap.size w wc))
   case first =>
    have H:=HC13.out
    clear HC13
    by_cases c14 : a0_0 < 0
    ·rw [if_pos c14] at H
     have c14b0 : decide (a0_0 < 0)=true:=decide_eq_true c14
     clear c14
     (first|rw [c14b0]|(simp only [i64_w,i32_w];rw [c14b0])|skip)
     have H':=Z0.mk H
     clear H
     have hnb15:=NB143_144.out
     have hnc15:=NB144_143.out
     have hcz16_0 : wc.cell? ⟨gb143,0,none⟩=some (.int .i64 a0_0):=(zkC BK143.out 0).trans rfl
     have hcz16_1 : wc.cell? ⟨gb143,1,none⟩=some (.int .i64 a0_1):=(zkC BK143.out 1).trans rfl
     have hfz16_0:=zkF BK143.out 0
     have hfz16_1:=zkF BK143.out 1
     go_wp2
     go_meet
     case rel=>exact ⟨_,(true),(by first|rfl|(simp;done)|(simp [*];done)),H',⟨by have:=HJ1.out;first|omega|exact Nat.le_refl _⟩,⟨by (with_reducible repeat (first|refine zkN ?_ _|refine zkD ?_|refine zkA ?_ _));exact BK143.out⟩,⟨by (with_reducible repeat (first|refine zkN ?_ _|refine zkD ?_|refine zkA ?_ _));exact BK144.out⟩,⟨by repeat (first|(with_reducible first|exact HB.out|apply zbA|apply zbN|apply zb1|refine zbS ?_ GE143.out|refine zbS ?_ GE144.out)|exact HB.out)⟩⟩
    rw [if_neg c14] at H
    have c14b0 : decide (a0_0 < 0)=false:=decide_eq_false c14
    clear c14
    (first|rw [c14b0]|(simp only [i64_w,i32_w];rw [c14b0])|skip)
    have H':=Z0.mk H
    clear H
    have hnb17:=NB143_144.out
    have hnc17:=NB144_143.out
    have hcz18_0 : wc.cell? ⟨gb143,0,none⟩=some (.int .i64 a0_0):=(zkC BK143.out 0).trans rfl
    have hcz18_1 : wc.cell? ⟨gb143,1,none⟩=some (.int .i64 a0_1):=(zkC BK143.out 1).trans rfl
    have hfz18_0:=zkF BK143.out 0
    have hfz18_1:=zkF BK143.out 1
    go_wp2
    go_meet
    case rel=>exact ⟨_,(decide (a0_1 < (wrap64 (128 - a0_0)))),(by first|rfl|(simp;done)|(simp [*];done)),H',⟨by have:=HJ1.out;first|omega|exact Nat.le_refl _⟩,⟨by (with_reducible repeat (first|refine zkN ?_ _|refine zkD ?_|refine zkA ?_ _));exact BK143.out⟩,⟨by (with_reducible repeat (first|refine zkN ?_ _|refine zkD ?_|refine zkA ?_ _));exact BK144.out⟩,⟨by repeat (first|(with_reducible first|exact HB.out|apply zbA|apply zbN|apply zb1|refine zbS ?_ GE143.out|refine zbS ?_ GE144.out)|exact HB.out)⟩⟩
   case rest =>
    clear HC13
    try clear c1
    try clear p2
    try clear c5
    try clear c5b0
    try clear c6
    try clear p6
    try clear c8
    try clear c9
    try clear c10
    try clear c11
    try clear c14
    try clear c14b0
    try clear c15
    try clear c17
    try clear hcz12_0
    try clear hcz12_1
    try clear hcz16_0
    try clear hcz16_1
    try clear hcz18_0
    try clear hcz18_1
    try clear hcz7_0
    try clear hcz7_1
    try clear hcz9_0
    try clear hcz9_1
    try clear hfz12_0
    try clear hfz12_1
    try clear hfz16_0
    try clear hfz16_1
    try clear hfz18_0
    try clear hfz18_1
    try clear hfz7_0
    try clear hfz7_1
    try clear hfz9_0
    try clear hfz9_1
    try clear p2
    obtain ⟨kq,x24_12,rfl,HA,HJ12,BK143,BK144,HB⟩:=hcut
    cases kq with
    | zero=>exact absurd HA.out (by simp [extent_clip.j1])
    | succ kj12 =>
     have H:=HA.out
     clear HA
     simp only [extent_clip.j1] at H
     by_cases c19 : x24_12=true
     ·subst c19
      have H1:(if (mn 128 (wrap64 (a0_0 + a0_1)))≤(mx 0 a0_0) then (some (0,0)) else (some (mx 0 a0_0,wrap64 ((mn 128 (wrap64 (a0_0 + a0_1))) - (mx 0 a0_0)))))=some (r1,r2):=by rw [if_pos rfl] at H;exact H
      clear H
      have H:=H1
      clear H1
      obtain ⟨ji20,hji20⟩:∃ j_:Int,(mn 128 (wrap64 (a0_0 + a0_1)))=j_:=⟨_,rfl⟩
      replace H:(if (ji20)≤(mx 0 a0_0) then (some (0,0)) else (some (mx 0 a0_0,wrap64 ((ji20) - (mx 0 a0_0)))))=some (r1,r2):=by first|(rw [hji20] at H;exact H)|(simp only [hji20] at H ⊢;exact H)
      have hji20_:(if (wrap64 (a0_0 + a0_1)) < 128 then (wrap64 (a0_0 + a0_1)) else 128)=ji20:=hji20
      obtain ⟨ji21,hji21⟩:∃ j_:Int,(mx 0 a0_0)=j_:=⟨_,rfl⟩
      replace H:(if (ji20)≤(ji21) then (some (0,0)) else (some (ji21,wrap64 ((ji20) - (ji21)))))=some (r1,r2):=by first|(rw [hji21] at H;exact H)|(simp only [hji21] at H ⊢;exact H)
      have hji21_:(if 0 < a0_0 then a0_0 else 0)=ji21:=hji21
      by_cases c22:(ji20)≤(ji21)
      ·rw [if_pos c22] at H
       have c22b0 : decide ((ji20)≤(ji21))=true:=decide_eq_true c22
       clear c22
       simp only [Option.some.injEq,Prod.mk.injEq] at H
       obtain ⟨rfl,rfl⟩:=H
       have hnb23:=NB143_144.out
       have hnc23:=NB144_143.out
       have hcz24_0 : wc.cell? ⟨gb143,0,none⟩=some (.int .i64 a0_0):=(zkC BK143.out 0).trans rfl
       have hcz24_1 : wc.cell? ⟨gb143,1,none⟩=some (.int .i64 a0_1):=(zkC BK143.out 1).trans rfl
       have hfz24_0:=zkF BK143.out 0
       have hfz24_1:=zkF BK143.out 1
       have hcz25_0 : wc.cell? ⟨gb144,0,none⟩=some (.int .i64 0):=(zkC BK144.out 0).trans rfl
       have hcz25_1 : wc.cell? ⟨gb144,1,none⟩=some (.int .i64 0):=(zkC BK144.out 1).trans rfl
       have hfz25_0:=zkF BK144.out 0
       have hfz25_1:=zkF BK144.out 1
       go_wp2
       refine bodyPost_ret (results_cell_row rfl _ _ gb144 103 #[.int .i64 0,.int .i64 0] (0,0) _ rfl (by (with_reducible repeat (first|refine zkN ?_ _|refine zkD ?_|refine zkA ?_ _));refine blk_put (cs:=#[.int .i64 0,.int .i64 0]) ?_ 1 _ rfl;(with_reducible repeat (first|refine zkN ?_ _|refine zkD ?_|refine zkA ?_ _));refine blk_put (cs:=#[.int .i64 0,.int .i64 0]) ?_ 0 _ rfl;(with_reducible repeat (first|refine zkN ?_ _|refine zkD ?_|refine zkA ?_ _));exact BK144.out) Try.underlying103 rfl (by kernel_rfl)) rfl ?_
       exact ⟨by first|rfl|(simp [errW_none,errW_some] <;> rfl)|(simp only [← hji20,← hji21];first|rfl|(simp [errW_none,errW_some] <;> rfl))|(simp [*,errW_none,errW_some] <;> rfl),by repeat (first|(with_reducible first|exact HB.out|apply zbA|apply zbN|apply zb1|refine zbS ?_ GE143.out|refine zbS ?_ GE144.out)|exact HB.out)⟩
      rw [if_neg c22] at H
      have c22b0 : decide ((ji20)≤(ji21))=false:=decide_eq_false c22
      clear c22
      simp only [Option.some.injEq,Prod.mk.injEq] at H
      obtain ⟨rfl,rfl⟩:=H
      have hnb26:=NB143_144.out
      have hnc26:=NB144_143.out
      have hcz27_0 : wc.cell? ⟨gb143,0,none⟩=some (.int .i64 a0_0):=(zkC BK143.out 0).trans rfl
      have hcz27_1 : wc.cell? ⟨gb143,1,none⟩=some (.int .i64 a0_1):=(zkC BK143.out 1).trans rfl
      have hfz27_0:=zkF BK143.out 0
      have hfz27_1:=zkF BK143.out 1
      have hcz28_0 : wc.cell? ⟨gb144,0,none⟩=some (.int .i64 0):=(zkC BK144.out 0).trans rfl
      have hcz28_1 : wc.cell? ⟨gb144,1,none⟩=some (.int .i64 0):=(zkC BK144.out 1).trans rfl
      have hfz28_0:=zkF BK144.out 0
      have hfz28_1:=zkF BK144.out 1
      go_wp2
      refine bodyPost_ret (results_cell_row rfl _ _ gb144 103 #[.int .i64 ji21,.int .i64 (wrap64 ((ji20) - (ji21)))] (0,0) _ rfl (by (with_reducible repeat (first|refine zkN ?_ _|refine zkD ?_|refine zkA ?_ _));refine blk_put (cs:=#[.int .i64 ji21,.int .i64 0]) ?_ 1 _ rfl;(with_reducible repeat (first|refine zkN ?_ _|refine zkD ?_|refine zkA ?_ _));refine blk_put (cs:=#[.int .i64 0,.int .i64 0]) ?_ 0 _ rfl;(with_reducible repeat (first|refine zkN ?_ _|refine zkD ?_|refine zkA ?_ _));exact BK144.out) Try.underlying103 rfl (by kernel_rfl)) rfl ?_
      exact ⟨by first|rfl|(simp [errW_none,errW_some] <;> rfl)|(simp only [← hji20,← hji21];first|rfl|(simp [errW_none,errW_some] <;> rfl))|(simp [*,errW_none,errW_some] <;> rfl),by repeat (first|(with_reducible first|exact HB.out|apply zbA|apply zbN|apply zb1|refine zbS ?_ GE143.out|refine zbS ?_ GE144.out)|exact HB.out)⟩
     replace c19:=Bool.eq_false_iff.mpr c19
     subst c19
     have H1:(if 128≤(mx 0 a0_0) then (some (0,0)) else (some (mx 0 a0_0,wrap64 (128 - (mx 0 a0_0)))))=some (r1,r2):=by rw [if_neg (show ¬ (false=true) by decide)] at H;exact H
     clear H
     have H:=H1
     clear H1
     obtain ⟨ji29,hji29⟩:∃ j_:Int,(mx 0 a0_0)=j_:=⟨_,rfl⟩
     replace H:(if 128≤(ji29) then (some (0,0)) else (some (ji29,wrap64 (128 - (ji29)))))=some (r1,r2):=by first|(rw [hji29] at H;exact H)|(simp only [hji29] at H ⊢;exact H)
     have hji29_:(if 0 < a0_0 then a0_0 else 0)=ji29:=hji29
     by_cases c30 : 128≤(ji29)
     ·rw [if_pos c30] at H
      have c30b0 : decide (128≤(ji29))=true:=decide_eq_true c30
      clear c30
      simp only [Option.some.injEq,Prod.mk.injEq] at H
      obtain ⟨rfl,rfl⟩:=H
      have hnb31:=NB143_144.out
      have hnc31:=NB144_143.out
      have hcz32_0 : wc.cell? ⟨gb143,0,none⟩=some (.int .i64 a0_0):=(zkC BK143.out 0).trans rfl
      have hcz32_1 : wc.cell? ⟨gb143,1,none⟩=some (.int .i64 a0_1):=(zkC BK143.out 1).trans rfl
      have hfz32_0:=zkF BK143.out 0
      have hfz32_1:=zkF BK143.out 1
      have hcz33_0 : wc.cell? ⟨gb144,0,none⟩=some (.int .i64 0):=(zkC BK144.out 0).trans rfl
      have hcz33_1 : wc.cell? ⟨gb144,1,none⟩=some (.int .i64 0):=(zkC BK144.out 1).trans rfl
      have hfz33_0:=zkF BK144.out 0
      have hfz33_1:=zkF BK144.out 1
      go_wp2
      refine bodyPost_ret (results_cell_row rfl _ _ gb144 103 #[.int .i64 0,.int .i64 0] (0,0) _ rfl (by (with_reducible repeat (first|refine zkN ?_ _|refine zkD ?_|refine zkA ?_ _));refine blk_put (cs:=#[.int .i64 0,.int .i64 0]) ?_ 1 _ rfl;(with_reducible repeat (first|refine zkN ?_ _|refine zkD ?_|refine zkA ?_ _));refine blk_put (cs:=#[.int .i64 0,.int .i64 0]) ?_ 0 _ rfl;(with_reducible repeat (first|refine zkN ?_ _|refine zkD ?_|refine zkA ?_ _));exact BK144.out) Try.underlying103 rfl (by kernel_rfl)) rfl ?_
      exact ⟨by first|rfl|(simp [errW_none,errW_some] <;> rfl)|(simp only [← hji29];first|rfl|(simp [errW_none,errW_some] <;> rfl))|(simp [*,errW_none,errW_some] <;> rfl),by repeat (first|(with_reducible first|exact HB.out|apply zbA|apply zbN|apply zb1|refine zbS ?_ GE143.out|refine zbS ?_ GE144.out)|exact HB.out)⟩
     rw [if_neg c30] at H
     have c30b0 : decide (128≤(ji29))=false:=decide_eq_false c30
     clear c30
     simp only [Option.some.injEq,Prod.mk.injEq] at H
     obtain ⟨rfl,rfl⟩:=H
     have hnb34:=NB143_144.out
     have hnc34:=NB144_143.out
     have hcz35_0 : wc.cell? ⟨gb143,0,none⟩=some (.int .i64 a0_0):=(zkC BK143.out 0).trans rfl
     have hcz35_1 : wc.cell? ⟨gb143,1,none⟩=some (.int .i64 a0_1):=(zkC BK143.out 1).trans rfl
     have hfz35_0:=zkF BK143.out 0
     have hfz35_1:=zkF BK143.out 1
     have hcz36_0 : wc.cell? ⟨gb144,0,none⟩=some (.int .i64 0):=(zkC BK144.out 0).trans rfl
     have hcz36_1 : wc.cell? ⟨gb144,1,none⟩=some (.int .i64 0):=(zkC BK144.out 1).trans rfl
     have hfz36_0:=zkF BK144.out 0
     have hfz36_1:=zkF BK144.out 1
     go_wp2
     refine bodyPost_ret (results_cell_row rfl _ _ gb144 103 #[.int .i64 ji29,.int .i64 (wrap64 (128 - (ji29)))] (0,0) _ rfl (by (with_reducible repeat (first|refine zkN ?_ _|refine zkD ?_|refine zkA ?_ _));refine blk_put (cs:=#[.int .i64 ji29,.int .i64 0]) ?_ 1 _ rfl;(with_reducible repeat (first|refine zkN ?_ _|refine zkD ?_|refine zkA ?_ _));refine blk_put (cs:=#[.int .i64 0,.int .i64 0]) ?_ 0 _ rfl;(with_reducible repeat (first|refine zkN ?_ _|refine zkD ?_|refine zkA ?_ _));exact BK144.out) Try.underlying103 rfl (by kernel_rfl)) rfl ?_
     exact ⟨by first|rfl|(simp [errW_none,errW_some] <;> rfl)|(simp only [← hji29];first|rfl|(simp [errW_none,errW_some] <;> rfl))|(simp [*,errW_none,errW_some] <;> rfl),by repeat (first|(with_reducible first|exact HB.out|apply zbA|apply zbN|apply zb1|refine zbS ?_ GE143.out|refine zbS ?_ GE144.out)|exact HB.out)⟩
end Go.Proofs.Ytegefemkmdlmaaa.P
end
section
namespace Go.Proofs.Ytegefemkmdlmaaa.P
open Go.RowKit Go.Proofs.YtegefemkmdlmaaaW.PrintWords Go.Proofs.YtegefemkmdlmaaaW.PrintLast Go.Proofs.YtegefemkmdlmaaaW.PrintMore
attribute [local go_sem] max2_int min2_int max_two min_two max_three min_three max_four min_four
set_option linter.unusedVariables false
set_option linter.unusedSimpArgs false
def extent_Join.l0:Nat→List (S103)→List (S103)→Int→Int→Option ((List (S103)))
 | 0,_,_,_,_=>none
 | k + 1,x3,x7,x8,x9=>if x9 < x8 then (if 0≤x9 then (if x9 < (x7.length:Int) then ((extent_clip.f k ((rd_T103 x7 x9).f0) ((rd_T103 x7 x9).f1)).bind fun bt147=>(if bt147.2=0 then (extent_Join.l0 k x3 x7 x8 (wrap64 (x9 + 1))) else (if (wrap64 ((x3.length:Int) - 1)) ≥ 0 then (if 0≤(wrap64 ((x3.length:Int) - 1)) then (if (wrap64 ((x3.length:Int) - 1)) < (x3.length:Int) then (if (wrap64 (((rd_T103 x3 (wrap64 ((x3.length:Int) - 1))).f0) + ((rd_T103 x3 (wrap64 ((x3.length:Int) - 1))).f1)))=bt147.1 then (extent_Join.l0 k (x3.set ((wrap64 ((x3.length:Int) - 1)):Int).toNat (⟨(rd_T103 x3 (wrap64 ((x3.length:Int) - 1))).f0,wrap64 (((rd_T103 x3 (wrap64 ((x3.length:Int) - 1))).f1) + bt147.2)⟩:S103)) x7 x8 (wrap64 (x9 + 1))) else (if x3.length < 8796093022208 then (extent_Join.l0 k (x3++[(⟨bt147.1,bt147.2⟩:S103)]) x7 x8 (wrap64 (x9 + 1))) else (none))) else (none)) else (none)) else (if x3.length < 8796093022208 then (extent_Join.l0 k (x3++[(⟨bt147.1,bt147.2⟩:S103)]) x7 x8 (wrap64 (x9 + 1))) else (none))))) else (none)) else (none)) else (some x3)
def extent_Join.f (k:Nat) (l0:List (S103)):Option ((List (S103))):=extent_Join.l0 k ([]:List (S103)) l0 (l0.length:Int) 0
def extent_Join.T9:Bool×List (List Nat×List Nat):=(true,[([],[]),([0],[0]),([1],[1]),([2],[2]),([2],[2]),([3,4,2],[2,3,4]),([5,2],[2,5]),([6,2],[2,6]),([2],[2]),([2],[2]),([8,9,2],[2,8,9]),([10,2],[2,10]),([11,2],[2,11]),([7,12,2],[2,7,12]),([2],[2]),([14,2],[2,14]),([13,15,2],[2,13,15]),([2,16],[2,16]),([17,2],[17])])
def extent_Join.B9:List Nat:=[0,1,3,7,7,31,63,127,7,7,775,1799,3847,8191,7,16391,65535,131071,262143]
theorem extent_Join.tab9 : rtab .any (opsOf Try.f38 9)=extent_Join.T9:=by kernel_rfl
theorem extent_Join.bits9 : waitsOk extent_Join.T9.2 extent_Join.B9=true:=by kernel_rfl
def extent_Join.T10:Bool×List (List Nat×List Nat):=(true,[([],[]),([],[]),([0,1],[0,1]),([2],[2]),([3],[3]),([],[]),([5],[5]),([4,6],[4,6]),([0,1,0,1,2,3,4,5,6,7],[0,1]),([8,0,1,2,3,4,5,6,7],[8]),([9,7,0,1,2,3,4,5,6,7],[7,9])])
def extent_Join.B10:List Nat:=[0,0,3,7,15,0,32,127,255,511,1023]
theorem extent_Join.tab10 : rtab .any (opsOf Try.f38 10)=extent_Join.T10:=by kernel_rfl
theorem extent_Join.bits10 : waitsOk extent_Join.T10.2 extent_Join.B10=true:=by kernel_rfl
set_option maxHeartbeats 8000000 in
set_option maxRecDepth 100000 in
theorem extent_Join.calls (k:Nat) (A0:Option Addr) (c0:Nat) (l0:List (S103)) (r:List (S103)) (w:World) (hr0:Kd.C k103 w A0 l0.length l0) (hc0 : l0.length≤c0) (h : extent_Join.f k l0=some r) :
  Calls Try.prog 38 #[.slice A0 l0.length c0] w fun e w'=>∃ v0_:Value,e=.returned (v0_)∧Kd.R k103 103 w' w.heap.size (fun _=>True) v0_ r∧Below w.heap.size w w':=by
 have hu103:=Try.underlying103
 have HR0:=Z0.mk hr0
 have HC0:=Z0.mk hc0
 clear hr0 hc0
 have HB:=Z0.mk (Below.refl w.heap.size w)
 have H:(extent_Join.l0 k ([]:List (S103)) l0 (l0.length:Int) 0)=some r:=h
 clear h
 have H':=Z0.mk H
 clear H
 go_enter Try.func38,Try.ntmps38
 go_wp2
 go_loopg [3,9] k (fun kq v3 v9 w'=>∃ (x3_1:List (S103)) (x9_1:Int),v9=.int .i64 x9_1∧Z0 (extent_Join.l0 kq x3_1 l0 (l0.length:Int) x9_1=some r)∧Z0 (kq≤k)∧Z0 (Kd.R k103 103 w' w.heap.size (fun _=>True) v3 x3_1)∧Z0 (Below w.heap.size w w'))
 case atStart=>exact ⟨(([]:List (S103))),(0),(by first|rfl|(simp;done)|(simp [*];done)),H',⟨Nat.le_refl _⟩,⟨by first|exact Kd.R_nil _ _ _ _ _|exact Kd.N_nil _ _ _ _ _|exact Kd.V_nil _ _ _ _ _|exact Kd.Q_nil _ _ _ _ _|exact Kd.S_nil _ _ _ _ _⟩,⟨by repeat (first|(with_reducible first|exact HB.out|apply zbA|apply zbN|apply zb1)|exact HB.out)⟩⟩
 case round =>
  clear H'
  obtain ⟨x3_1,x9_1,rfl,HA,HK1,HO_3,HB⟩:=hrel
  cases gk with
  | zero=>exact absurd HA.out (by simp [extent_Join.l0])
  | succ k1 =>
   have H:=HA.out
   clear HA
   simp only [extent_Join.l0] at H
   by_cases c2 : x9_1 < (l0.length:Int)
   ·rw [if_pos c2] at H
    have c2b0 : decide (x9_1 < (l0.length:Int))=true:=decide_eq_true c2
    clear c2
    by_cases c3 : 0≤x9_1
    ·rw [if_pos c3] at H
     have c3b0 : decide (0≤x9_1)=true:=decide_eq_true c3
     clear c3
     by_cases c4 : x9_1 < (l0.length:Int)
     ·rw [if_pos c4] at H
      have c4b0 : decide (x9_1 < (l0.length:Int))=true:=decide_eq_true c4
      clear c4
      replace H:=Option.bind_eq_some_iff.mp H
      obtain ⟨⟨t147,t148⟩,A50,H⟩:=H
      replace H:(if t148=0 then (extent_Join.l0 k1 x3_1 l0 (l0.length:Int) (wrap64 (x9_1 + 1))) else (if (wrap64 ((x3_1.length:Int) - 1)) ≥ 0 then (if 0≤(wrap64 ((x3_1.length:Int) - 1)) then (if (wrap64 ((x3_1.length:Int) - 1)) < (x3_1.length:Int) then (if (wrap64 (((rd_T103 x3_1 (wrap64 ((x3_1.length:Int) - 1))).f0) + ((rd_T103 x3_1 (wrap64 ((x3_1.length:Int) - 1))).f1)))=t147 then (extent_Join.l0 k1 (x3_1.set ((wrap64 ((x3_1.length:Int) - 1)):Int).toNat (⟨(rd_T103 x3_1 (wrap64 ((x3_1.length:Int) - 1))).f0,wrap64 (((rd_T103 x3_1 (wrap64 ((x3_1.length:Int) - 1))).f1) + t148)⟩:S103)) l0 (l0.length:Int) (wrap64 (x9_1 + 1))) else (if x3_1.length < 8796093022208 then (extent_Join.l0 k1 (x3_1++[(⟨t147,t148⟩:S103)]) l0 (l0.length:Int) (wrap64 (x9_1 + 1))) else (none))) else (none)) else (none)) else (if x3_1.length < 8796093022208 then (extent_Join.l0 k1 (x3_1++[(⟨t147,t148⟩:S103)]) l0 (l0.length:Int) (wrap64 (x9_1 + 1))) else (none))))=some r:=H
      have A5:=Z0.mk A50
      clear A50
      by_cases c6 : t148=0
      ·rw [if_pos c6] at H
       have c6b0:(t148 == 0)=true:=beq_iff_eq.mpr c6
       have c6b1:(t148 != 0)=false:=bne_eq_false_iff_eq.mpr c6
       clear c6
       have H':=Z0.mk H
       clear H
       have p145 : 0≤(x9_1:Int):=of_decide_eq_true (by first|(with_reducible assumption)|assumption)
       have q145 : x9_1 < (l0.length:Int):=of_decide_eq_true (by first|(with_reducible assumption)|assumption)
       obtain ⟨ad145,e145,hx145_0,hx145_1⟩:=at_T103 HR0.out x9_1 p145 q145
       cases e145
       replace hx145_0:=(HB.out.cell (World.block_lt_of_cell? w _ hx145_0)).trans hx145_0
       replace hx145_1:=(HB.out.cell (World.block_lt_of_cell? w _ hx145_1)).trans hx145_1
       replace p145:=eq_true p145
       replace q145:=eq_true q145
       go_wp2_with (first|((with_reducible refine gate_dst (N:=5) rfl ?_);refine box_event ?hg (N:=5) ?hd (cs:=#[.int .i64 0,.int .i64 0]) (t:=103) ?hr ?_;(case hd=>rfl);(case hg=>rfl);(case hr=>first|(go_simp;done)|(go_simp;rfl));intro gb146 hg w7 hbox hb;have n0_:=Z0.mk (Kd.R_below (Kd.R_elderB (by (with_reducible repeat (first|apply Kd.R_alloc|apply Kd.R_drewN|apply Kd.R_drew));exact HO_3.out) gb146 (Nat.le_of_eq hg.symm)) hb);have n1_:=Z0.mk (below_step (by repeat (first|(with_reducible first|exact HB.out|apply zbA|apply zbN|apply zb1)|exact HB.out)) hb);have n2_:=Z0.mk (hbox);have n3_:=Z0.mk ((by rw [hg];exact (below_size (by repeat (first|(with_reducible first|exact HB.out|apply zbA|apply zbN|apply zb1)|exact HB.out))) : w.heap.size≤gb146));have n4_:=Z0.mk ((by rw [hg];exact (below_size (by repeat (first|(with_reducible first|exact HB.out|apply zbA|apply zbN|apply zb1)|exact HB.out))) : w.heap.size≤gb146));clear HO_3;clear HB;have HO_3:=n0_;have HB:=n1_;have BK146:=n2_;have GW146:=n3_;have GE146:=n4_;clear n0_ n1_ n2_ n3_ n4_;clear hb hbox hg;have hcz8_0 : w7.cell? ⟨gb146,0,none⟩=some (.int .i64 0):=(zkC BK146.out 0).trans rfl;have hcz8_1 : w7.cell? ⟨gb146,1,none⟩=some (.int .i64 0):=(zkC BK146.out 1).trans rfl;have hfz8_0:=zkF BK146.out 0;have hfz8_1:=zkF BK146.out 1)|((with_reducible refine gate_callee (f:=95) rfl ?_);refine goesL_ (some 14) rfl rfl Try.func95 (by kernel_rfl) rfl #[.agg #[.int .i64 ((rd_T103 l0 x9_1).f0),.int .i64 ((rd_T103 l0 x9_1).f1)]] rfl (by (try simp only [List.map_toArray,List.map_cons,List.map_nil]);first|done|rfl|(simp only [List.length_drop,List.length_take];rfl)) ?_;(with_reducible refine (extent_clip.calls k1 ((rd_T103 l0 x9_1).f0) ((rd_T103 l0 x9_1).f1) t147 t148 _ A5.out).mono ?_);rintro e w9 ⟨rfl,hb⟩;refine ⟨_,rfl,?_⟩;have n0_:=Z0.mk (Kd.R_below (by (with_reducible repeat (first|apply Kd.R_alloc|apply Kd.R_drewN|apply Kd.R_drew));exact (Kd.R_mono (Kd.R_far (p:=⟨gb146,1,none⟩) (Kd.R_far (p:=⟨gb146,0,none⟩) (Kd.R_mono HO_3.out (fun k_ hk=>(⟨hk,hk.2⟩ : _∧k_ ≠ gb146))) (fun _ hk=>hk.2) (.int .i64 ((rd_T103 l0 x9_1).f0))) (fun _ hk=>hk.2) (.int .i64 ((rd_T103 l0 x9_1).f1))) (fun _ h_=>h_.1))) hb);have n1_:=Z0.mk (blk_below (g:=gb146) (o:=.cells #[.int .i64 ((rd_T103 l0 x9_1).f0),.int .i64 ((rd_T103 l0 x9_1).f1)] 103 (0,0)) (by (with_reducible repeat (first|refine zkN ?_ _|refine zkD ?_|refine zkA ?_ _));refine blk_put (cs:=#[.int .i64 ((rd_T103 l0 x9_1).f0),.int .i64 0]) ?_ 1 _ rfl;(with_reducible repeat (first|refine zkN ?_ _|refine zkD ?_|refine zkA ?_ _));refine blk_put (cs:=#[.int .i64 0,.int .i64 0]) ?_ 0 _ rfl;(with_reducible repeat (first|refine zkN ?_ _|refine zkD ?_|refine zkA ?_ _));exact BK146.out) hb);have n2_:=Z0.mk (below_step (by repeat (first|(with_reducible first|exact HB.out|apply zbA|apply zbN|apply zb1|refine zbS ?_ GE146.out)|exact HB.out)) hb);clear HO_3;clear BK146;clear HB;have HO_3:=n0_;have BK146:=n1_;have HB:=n2_;clear n0_ n1_ n2_;(try clear hb);(try clear hb2);(try clear hk);(try clear hi);have hcz10_0 : w9.cell? ⟨gb146,0,none⟩=some (.int .i64 ((rd_T103 l0 x9_1).f0)):=(zkC BK146.out 0).trans rfl;have hcz10_1 : w9.cell? ⟨gb146,1,none⟩=some (.int .i64 ((rd_T103 l0 x9_1).f1)):=(zkC BK146.out 1).trans rfl;have hfz10_0:=zkF BK146.out 0;have hfz10_1:=zkF BK146.out 1;obtain ⟨Ao11,co11,eo11⟩:=Kd.R_slice HO_3.out;subst eo11))
       go_roundg k1
       case measure=>have:=HK1.out;omega
       case rel=>exact ⟨(x3_1),(wrap64 (x9_1 + 1)),(by first|rfl|(simp;done)|(simp [*];done)),H',⟨by have:=HK1.out;omega⟩,⟨by (with_reducible repeat (first|apply Kd.R_alloc|apply Kd.R_drewN|apply Kd.R_drew));exact Kd.R_mono (Kd.R_far (p:=⟨gb146,1,none⟩) (Kd.R_far (p:=⟨gb146,0,none⟩) (Kd.R_mono HO_3.out (fun k_ hk=>(⟨hk,hk.2⟩ : _∧k_ ≠ gb146))) (fun _ hk=>hk.2) (.int .i64 t147)) (fun _ hk=>hk.2) (.int .i64 t148)) (fun _ hk=>trivial)⟩,⟨by repeat (first|(with_reducible first|exact HB.out|apply zbA|apply zbN|apply zb1|refine zbS ?_ GE146.out)|exact HB.out)⟩⟩
      rw [if_neg c6] at H
      have c6b0:(t148 == 0)=false:=beq_eq_false_iff_ne.mpr c6
      have c6b1:(t148 != 0)=true:=bne_iff_ne.mpr c6
      by_cases c12:(wrap64 ((x3_1.length:Int) - 1)) ≥ 0
      ·rw [if_pos c12] at H
       have c12b0 : decide (0≤(wrap64 ((x3_1.length:Int) - 1)))=true:=decide_eq_true c12
       clear c12
       obtain ⟨ji13,hji13⟩:∃ j_:Int,(wrap64 ((x3_1.length:Int) - 1))=j_:=⟨_,rfl⟩
       replace H:(if 0≤(ji13) then (if (ji13) < (x3_1.length:Int) then (if (wrap64 (((rd_T103 x3_1 (ji13)).f0) + ((rd_T103 x3_1 (ji13)).f1)))=t147 then (extent_Join.l0 k1 (x3_1.set ((ji13):Int).toNat (⟨(rd_T103 x3_1 (ji13)).f0,wrap64 (((rd_T103 x3_1 (ji13)).f1) + t148)⟩:S103)) l0 (l0.length:Int) (wrap64 (x9_1 + 1))) else (if x3_1.length < 8796093022208 then (extent_Join.l0 k1 (x3_1++[(⟨t147,t148⟩:S103)]) l0 (l0.length:Int) (wrap64 (x9_1 + 1))) else (none))) else (none)) else (none))=some r:=by first|(rw [hji13] at H;exact H)|(simp only [hji13] at H ⊢;exact H)
       (try rw [hji13] at c12b0)
       (try rw [hji13] at A5)
       have hji13w:(IntKind.i64.wrap ((x3_1.length:Int) - 1))=ji13:=(i64_w _).trans hji13
       by_cases c14 : 0≤(ji13)
       ·rw [if_pos c14] at H
        have c14b0 : decide (0≤(ji13))=true:=decide_eq_true c14
        clear c14
        by_cases c15:(ji13) < (x3_1.length:Int)
        ·rw [if_pos c15] at H
         have c15b0 : decide ((ji13) < (x3_1.length:Int))=true:=decide_eq_true c15
         clear c15
         by_cases c16:(wrap64 (((rd_T103 x3_1 (ji13)).f0) + ((rd_T103 x3_1 (ji13)).f1)))=t147
         ·rw [if_pos c16] at H
          have c16b0:((wrap64 (((rd_T103 x3_1 (ji13)).f0) + ((rd_T103 x3_1 (ji13)).f1))) == t147)=true:=beq_iff_eq.mpr c16
          have c16b1:((wrap64 (((rd_T103 x3_1 (ji13)).f0) + ((rd_T103 x3_1 (ji13)).f1))) != t147)=false:=bne_eq_false_iff_eq.mpr c16
          clear c16
          obtain ⟨y152,hy152⟩:∃ y_:List (S103),y_=(x3_1.set ((ji13):Int).toNat (⟨(rd_T103 x3_1 (ji13)).f0,wrap64 (((rd_T103 x3_1 (ji13)).f1) + t148)⟩:S103)):=⟨_,rfl⟩
          replace H:(extent_Join.l0 k1 y152 l0 (l0.length:Int) (wrap64 (x9_1 + 1)))=some r:=by first|(rw [hy152];with_reducible exact H)|(have H2_:=(Option.bind_some _ _).symm.trans H;rw [hy152];with_reducible exact H2_)|(have H2_:=(Option.bind_some _ _).symm.trans H;with_reducible exact H2_)|with_reducible exact H|(rw [hy152];exact H)|exact H
          have Ny152:=Z0.mk hy152
          clear hy152
          have H':=Z0.mk H
          clear H
          have p145 : 0≤(x9_1:Int):=of_decide_eq_true (by first|(with_reducible assumption)|assumption)
          have q145 : x9_1 < (l0.length:Int):=of_decide_eq_true (by first|(with_reducible assumption)|assumption)
          obtain ⟨ad145,e145,hx145_0,hx145_1⟩:=at_T103 HR0.out x9_1 p145 q145
          cases e145
          replace hx145_0:=(HB.out.cell (World.block_lt_of_cell? w _ hx145_0)).trans hx145_0
          replace hx145_1:=(HB.out.cell (World.block_lt_of_cell? w _ hx145_1)).trans hx145_1
          replace p145:=eq_true p145
          replace q145:=eq_true q145
          try go_wp2_with (first|((with_reducible refine gate_dst (N:=5) rfl ?_);refine box_event ?hg (N:=5) ?hd (cs:=#[.int .i64 0,.int .i64 0]) (t:=103) ?hr ?_;(case hd=>rfl);(case hg=>rfl);(case hr=>first|(go_simp;done)|(go_simp;rfl));intro gb146 hg w18 hbox hb;have n0_:=Z0.mk (Kd.R_below (Kd.R_elderB (by (with_reducible repeat (first|apply Kd.R_alloc|apply Kd.R_drewN|apply Kd.R_drew));exact HO_3.out) gb146 (Nat.le_of_eq hg.symm)) hb);have n1_:=Z0.mk (below_step (by repeat (first|(with_reducible first|exact HB.out|apply zbA|apply zbN|apply zb1)|exact HB.out)) hb);have n2_:=Z0.mk (hbox);have n3_:=Z0.mk ((by rw [hg];exact (below_size (by repeat (first|(with_reducible first|exact HB.out|apply zbA|apply zbN|apply zb1)|exact HB.out))) : w.heap.size≤gb146));have n4_:=Z0.mk ((by rw [hg];exact (below_size (by repeat (first|(with_reducible first|exact HB.out|apply zbA|apply zbN|apply zb1)|exact HB.out))) : w.heap.size≤gb146));clear HO_3;clear HB;have HO_3:=n0_;have HB:=n1_;have BK146:=n2_;have GW146:=n3_;have GE146:=n4_;clear n0_ n1_ n2_ n3_ n4_;clear hb hbox hg;have hcz19_0 : w18.cell? ⟨gb146,0,none⟩=some (.int .i64 0):=(zkC BK146.out 0).trans rfl;have hcz19_1 : w18.cell? ⟨gb146,1,none⟩=some (.int .i64 0):=(zkC BK146.out 1).trans rfl;have hfz19_0:=zkF BK146.out 0;have hfz19_1:=zkF BK146.out 1)|((with_reducible refine gate_callee (f:=95) rfl ?_);refine goesL_ (some 14) rfl rfl Try.func95 (by kernel_rfl) rfl #[.agg #[.int .i64 ((rd_T103 l0 x9_1).f0),.int .i64 ((rd_T103 l0 x9_1).f1)]] rfl (by (try simp only [List.map_toArray,List.map_cons,List.map_nil]);first|done|rfl|(simp only [List.length_drop,List.length_take];rfl)) ?_;(with_reducible refine (extent_clip.calls k1 ((rd_T103 l0 x9_1).f0) ((rd_T103 l0 x9_1).f1) t147 t148 _ A5.out).mono ?_);rintro e w20 ⟨rfl,hb⟩;refine ⟨_,rfl,?_⟩;have n0_:=Z0.mk (Kd.R_below (by (with_reducible repeat (first|apply Kd.R_alloc|apply Kd.R_drewN|apply Kd.R_drew));exact (Kd.R_mono (Kd.R_far (p:=⟨gb146,1,none⟩) (Kd.R_far (p:=⟨gb146,0,none⟩) (Kd.R_mono HO_3.out (fun k_ hk=>(⟨hk,hk.2⟩ : _∧k_ ≠ gb146))) (fun _ hk=>hk.2) (.int .i64 ((rd_T103 l0 x9_1).f0))) (fun _ hk=>hk.2) (.int .i64 ((rd_T103 l0 x9_1).f1))) (fun _ h_=>h_.1))) hb);have n1_:=Z0.mk (blk_below (g:=gb146) (o:=.cells #[.int .i64 ((rd_T103 l0 x9_1).f0),.int .i64 ((rd_T103 l0 x9_1).f1)] 103 (0,0)) (by (with_reducible repeat (first|refine zkN ?_ _|refine zkD ?_|refine zkA ?_ _));refine blk_put (cs:=#[.int .i64 ((rd_T103 l0 x9_1).f0),.int .i64 0]) ?_ 1 _ rfl;(with_reducible repeat (first|refine zkN ?_ _|refine zkD ?_|refine zkA ?_ _));refine blk_put (cs:=#[.int .i64 0,.int .i64 0]) ?_ 0 _ rfl;(with_reducible repeat (first|refine zkN ?_ _|refine zkD ?_|refine zkA ?_ _));exact BK146.out) hb);have n2_:=Z0.mk (below_step (by repeat (first|(with_reducible first|exact HB.out|apply zbA|apply zbN|apply zb1|refine zbS ?_ GE146.out)|exact HB.out)) hb);clear HO_3;clear BK146;clear HB;have HO_3:=n0_;have BK146:=n1_;have HB:=n2_;clear n0_ n1_ n2_;(try clear hb);(try clear hb2);(try clear hk);(try clear hi);have hcz21_0 : w20.cell? ⟨gb146,0,none⟩=some (.int .i64 ((rd_T103 l0 x9_1).f0)):=(zkC BK146.out 0).trans rfl;have hcz21_1 : w20.cell? ⟨gb146,1,none⟩=some (.int .i64 ((rd_T103 l0 x9_1).f1)):=(zkC BK146.out 1).trans rfl;have hfz21_0:=zkF BK146.out 0;have hfz21_1:=zkF BK146.out 1;obtain ⟨Ao22,co22,eo22⟩:=Kd.R_slice HO_3.out;subst eo22))
          have n0_:Z0 (Kd.R k103 103 ((w20.setCell ⟨gb146,0,none⟩ (.int .i64 t147)).setCell ⟨gb146,1,none⟩ (.int .i64 t148)) w.heap.size (fun k_=>k_ ≠ gb146) (.slice Ao22 x3_1.length co22) x3_1):=⟨by (with_reducible repeat (first|apply Kd.R_alloc|apply Kd.R_drewN|apply Kd.R_drew));exact Kd.R_mono (Kd.R_far (p:=⟨gb146,1,none⟩) (Kd.R_far (p:=⟨gb146,0,none⟩) (Kd.R_mono HO_3.out (fun k_ hk=>(⟨hk,hk.2⟩ : _∧k_ ≠ gb146))) (fun _ hk=>hk.2) (.int .i64 t147)) (fun _ hk=>hk.2) (.int .i64 t148)) (fun _ hk=>hk.1.2)⟩
          have n1_:Z0 (((w20.setCell ⟨gb146,0,none⟩ (.int .i64 t147)).setCell ⟨gb146,1,none⟩ (.int .i64 t148)).heap[gb146]?=some (.cells #[.int .i64 t147,.int .i64 t148] 103 (0,0))):=⟨by (with_reducible repeat (first|refine zkN ?_ _|refine zkD ?_|refine zkA ?_ _));refine blk_put (cs:=#[.int .i64 t147,.int .i64 ((rd_T103 l0 x9_1).f1)]) ?_ 1 _ rfl;(with_reducible repeat (first|refine zkN ?_ _|refine zkD ?_|refine zkA ?_ _));refine blk_put (cs:=#[.int .i64 ((rd_T103 l0 x9_1).f0),.int .i64 ((rd_T103 l0 x9_1).f1)]) ?_ 0 _ rfl;(with_reducible repeat (first|refine zkN ?_ _|refine zkD ?_|refine zkA ?_ _));exact BK146.out⟩
          have n2_:Z0 (Below w.heap.size w ((w20.setCell ⟨gb146,0,none⟩ (.int .i64 t147)).setCell ⟨gb146,1,none⟩ (.int .i64 t148))):=⟨by repeat (first|(with_reducible first|exact HB.out|apply zbA|apply zbN|apply zb1|refine zbS ?_ GE146.out)|exact HB.out)⟩
          (try clear HO_3)
          (try clear BK146)
          (try clear HB)
          generalize ((w20.setCell ⟨gb146,0,none⟩ (.int .i64 t147)).setCell ⟨gb146,1,none⟩ (.int .i64 t148))=w23 at n0_ n1_ n2_ ⊢
          have HO_3:=n0_
          have BK146:=n1_
          have HB:=n2_
          clear n0_ n1_ n2_
          have n0_:=Z0.mk (Kd.R_drew HO_3.out)
          have n1_:=Z0.mk (zkD BK146.out)
          have n2_:=Z0.mk (zb1 HB.out)
          clear HO_3
          clear BK146
          clear HB
          have HO_3:=n0_
          have BK146:=n1_
          have HB:=n2_
          clear n0_ n1_ n2_
          have p149 : 0≤((ji13):Int):=of_decide_eq_true (by first|(with_reducible assumption)|assumption)
          have q149:(ji13) < (x3_1.length:Int):=of_decide_eq_true (by first|(with_reducible assumption)|assumption)
          obtain ⟨ad149,e149,hx149_0,hx149_1⟩:=at_T103 (Kd.R_reads' HO_3.out).2.2 (ji13) p149 q149
          cases e149
          replace p149:=eq_true p149
          replace q149:=eq_true q149
          have p150 : 0≤((ji13):Int):=of_decide_eq_true (by first|(with_reducible assumption)|assumption)
          have q150:(ji13) < (x3_1.length:Int):=of_decide_eq_true (by first|(with_reducible assumption)|assumption)
          obtain ⟨ad150,e150,hx150_0,hx150_1⟩:=at_T103 (Kd.R_reads' HO_3.out).2.2 (ji13) p150 q150
          obtain rfl : ad149=ad150:=(by injection e150)
          replace p150:=eq_true p150
          replace q150:=eq_true q150
          refine start_ (n:=19) (S:=fun w'=>w'.cell? ⟨gb146,0,none⟩=some (.int .i64 t147)∧w'.cell? ⟨gb146,1,none⟩=some (.int .i64 t148)∧w'.cell? (ad149.add (((ji13)).toNat * 2))=some (.int .i64 ((rd_T103 x3_1 (ji13)).f0))∧w'.cell? ⟨(ad149.add (((ji13)).toNat * 2)).block,(ad149.add (((ji13)).toNat * 2)).off + 1,none⟩=some (.int .i64 ((rd_T103 x3_1 (ji13)).f1))∧w'.cell? (ad149.add (((ji13)).toNat * 2))=some (.int .i64 ((rd_T103 x3_1 (ji13)).f0))∧w'.cell? ⟨(ad149.add (((ji13)).toNat * 2)).block,(ad149.add (((ji13)).toNat * 2)).off + 1,none⟩=some (.int .i64 ((rd_T103 x3_1 (ji13)).f1))) (ds:=[]) #[false,false,false,false,false,false,false,false,false,false,false,false,false,false,false,false,false,false,false] (by kernel_rfl) rfl rfl ⟨(zkC BK146.out 0).trans rfl,(zkC BK146.out 1).trans rfl,hx149_0,hx149_1,hx150_0,hx150_1⟩ (fun hHeld=>?_);refine with_tabW extent_Join.tab9 extent_Join.bits9 (fun HT_ HW_=>?_)
          generalize w23.drew=w24 at HO_3 BK146 HB hx149_0 hx149_1 hx150_0 hx150_1 hHeld ⊢
          refine pure_ (i:=0) (N:=some 27) (v:=?_) (a':=?_) #[true,false,false,false,false,false,false,false,false,false,false,false,false,false,false,false,false,false,false] rfl rfl (any_of HT_.out (by kernel_rfl)) (fun _ _ _ h=>h) (Or.inl ⟨by rfl,?_⟩) ?_ ?_
          rotate_left
          ·intro w'
           go_simp
           with_reducible rfl
          rotate_left
          ·simp only [Act.put,List.setIfInBounds_toArray,List.set_cons_zero,List.set_cons_succ,i64_w,i32_w]
           rfl
          refine pure_ (i:=1) (N:=some 28) (v:=?_) (a':=?_) #[true,true,false,false,false,false,false,false,false,false,false,false,false,false,false,false,false,false,false] rfl rfl (any_of HT_.out (by kernel_rfl)) (fun _ _ _ h=>h) (Or.inl ⟨by rfl,?_⟩) ?_ ?_
          rotate_left
          ·intro w'
           go_simp
           with_reducible rfl
          rotate_left
          ·simp only [Act.put,List.setIfInBounds_toArray,List.set_cons_zero,List.set_cons_succ,i64_w,i32_w]
           rfl
          refine pure_ (i:=2) (N:=some 29) (v:=?_) (a':=?_) #[true,true,true,false,false,false,false,false,false,false,false,false,false,false,false,false,false,false,false] rfl rfl (any_of HT_.out (by kernel_rfl)) (fun _ _ _ h=>h) (Or.inl ⟨by rfl,?_⟩) ?_ ?_
          rotate_left
          ·intro w'
           go_simp
           with_reducible rfl
          rotate_left
          ·simp only [Act.put,List.setIfInBounds_toArray,List.set_cons_zero,List.set_cons_succ,i64_w,i32_w]
           rfl
          refine pure_ (i:=3) (N:=some 30) (v:=?_) (a':=?_) #[true,true,true,true,false,false,false,false,false,false,false,false,false,false,false,false,false,false,false] rfl rfl (any_of HT_.out (by kernel_rfl)) (fun _ _ _ h=>h) (Or.inl ⟨by rfl,?_⟩) ?_ ?_
          rotate_left
          ·intro w'
           go_simp
           with_reducible rfl
          rotate_left
          ·simp only [Act.put,List.setIfInBounds_toArray,List.set_cons_zero,List.set_cons_succ,i64_w,i32_w]
           rfl
          refine pure_ (i:=4) (N:=some 31) (v:=?_) (a':=?_) #[true,true,true,true,true,false,false,false,false,false,false,false,false,false,false,false,false,false,false] rfl rfl (any_of HT_.out (by kernel_rfl)) (fun _ _ _ h=>h) (Or.inl ⟨by rfl,?_⟩) ?_ ?_
          rotate_left
          ·intro w'
           go_simp
           with_reducible rfl
          rotate_left
          ·simp only [Act.put,List.setIfInBounds_toArray,List.set_cons_zero,List.set_cons_succ,i64_w,i32_w]
           rfl
          refine pure_ (i:=5) (N:=some 32) (v:=?_) (a':=?_) #[true,true,true,true,true,true,false,false,false,false,false,false,false,false,false,false,false,false,false] rfl rfl (any_of HT_.out (by kernel_rfl)) (fun _ _ _ h=>h) (Or.inl ⟨by rfl,?_⟩) ?_ ?_
          rotate_left
          ·intro w'
           go_simp
           with_reducible rfl
          rotate_left
          ·simp only [Act.put,List.setIfInBounds_toArray,List.set_cons_zero,List.set_cons_succ,i64_w,i32_w]
           rfl
          refine pure_ (i:=6) (N:=some 33) (v:=?_) (a':=?_) #[true,true,true,true,true,true,true,false,false,false,false,false,false,false,false,false,false,false,false] rfl rfl (any_of HT_.out (by kernel_rfl)) (fun _ _ _ h=>h) (Or.inl ⟨by rfl,?_⟩) ?_ ?_
          rotate_left
          ·intro w'
           go_simp
           with_reducible rfl
          rotate_left
          ·simp only [Act.put,List.setIfInBounds_toArray,List.set_cons_zero,List.set_cons_succ,i64_w,i32_w]
           rfl
          refine pure_ (i:=8) (N:=some 35) (v:=?_) (a':=?_) #[true,true,true,true,true,true,true,false,true,false,false,false,false,false,false,false,false,false,false] rfl rfl (any_of HT_.out (by kernel_rfl)) (fun _ _ _ h=>h) (Or.inl ⟨by rfl,?_⟩) ?_ ?_
          rotate_left
          ·intro w'
           go_simp
           with_reducible rfl
          rotate_left
          ·simp only [Act.put,List.setIfInBounds_toArray,List.set_cons_zero,List.set_cons_succ,i64_w,i32_w]
           rfl
          refine pure_ (i:=9) (N:=some 36) (v:=?_) (a':=?_) #[true,true,true,true,true,true,true,false,true,true,false,false,false,false,false,false,false,false,false] rfl rfl (any_of HT_.out (by kernel_rfl)) (fun _ _ _ h=>h) (Or.inl ⟨by rfl,?_⟩) ?_ ?_
          rotate_left
          ·intro w'
           go_simp
           with_reducible rfl
          rotate_left
          ·simp only [Act.put,List.setIfInBounds_toArray,List.set_cons_zero,List.set_cons_succ,i64_w,i32_w]
           rfl
          refine pure_ (i:=10) (N:=some 37) (v:=?_) (a':=?_) #[true,true,true,true,true,true,true,false,true,true,true,false,false,false,false,false,false,false,false] rfl rfl (any_of HT_.out (by kernel_rfl)) (fun _ _ _ h=>h) (Or.inl ⟨by rfl,?_⟩) ?_ ?_
          rotate_left
          ·intro w'
           go_simp
           with_reducible rfl
          rotate_left
          ·simp only [Act.put,List.setIfInBounds_toArray,List.set_cons_zero,List.set_cons_succ,i64_w,i32_w]
           rfl
          refine pure_ (i:=11) (N:=some 38) (v:=?_) (a':=?_) #[true,true,true,true,true,true,true,false,true,true,true,true,false,false,false,false,false,false,false] rfl rfl (any_of HT_.out (by kernel_rfl)) (fun _ _ _ h=>h) (Or.inl ⟨by rfl,?_⟩) ?_ ?_
          rotate_left
          ·intro w'
           go_simp
           with_reducible rfl
          rotate_left
          ·simp only [Act.put,List.setIfInBounds_toArray,List.set_cons_zero,List.set_cons_succ,i64_w,i32_w]
           rfl
          refine pure_ (i:=14) (N:=some 41) (v:=?_) (a':=?_) #[true,true,true,true,true,true,true,false,true,true,true,true,false,false,true,false,false,false,false] rfl rfl (any_of HT_.out (by kernel_rfl)) (fun _ _ _ h=>h) (Or.inl ⟨by rfl,?_⟩) ?_ ?_
          rotate_left
          ·intro w'
           go_simp
           with_reducible rfl
          rotate_left
          ·simp only [Act.put,List.setIfInBounds_toArray,List.set_cons_zero,List.set_cons_succ,i64_w,i32_w]
           rfl
          refine take_ (i:=7) (N:=some 34) (v:=?_) (a':=?_) #[true,true,true,true,true,true,true,true,true,true,true,true,false,false,true,false,false,false,false] rfl rfl (take_ofW HT_.out HW_.out (by kernel_rfl)) (fun _ _ _ h=>h) (Or.inl ⟨by rfl,?_⟩) hHeld ?_ ?_
          rotate_left
          ·rintro w' ⟨s0,s1,s2,s3,s4,s5⟩
           go_simp
           with_reducible rfl
          rotate_left
          ·simp only [Act.put,List.setIfInBounds_toArray,List.set_cons_zero,List.set_cons_succ,i64_w,i32_w]
           rfl
          refine take_ (i:=12) (N:=some 39) (v:=?_) (a':=?_) #[true,true,true,true,true,true,true,true,true,true,true,true,true,false,true,false,false,false,false] rfl rfl (take_ofW HT_.out HW_.out (by kernel_rfl)) (fun _ _ _ h=>h) (Or.inl ⟨by rfl,?_⟩) hHeld ?_ ?_
          rotate_left
          ·rintro w' ⟨s0,s1,s2,s3,s4,s5⟩
           go_simp
           with_reducible rfl
          rotate_left
          ·simp only [Act.put,List.setIfInBounds_toArray,List.set_cons_zero,List.set_cons_succ,i64_w,i32_w]
           rfl
          refine pure_ (i:=13) (N:=some 40) (v:=?_) (a':=?_) #[true,true,true,true,true,true,true,true,true,true,true,true,true,true,true,false,false,false,false] rfl rfl (any_of HT_.out (by kernel_rfl)) (fun _ _ _ h=>h) (Or.inl ⟨by rfl,?_⟩) ?_ ?_
          rotate_left
          ·intro w'
           go_simp
           with_reducible rfl
          rotate_left
          ·simp only [Act.put,List.setIfInBounds_toArray,List.set_cons_zero,List.set_cons_succ,i64_w,i32_w]
           rfl
          refine take_ (i:=15) (N:=some 42) (v:=?_) (a':=?_) #[true,true,true,true,true,true,true,true,true,true,true,true,true,true,true,true,false,false,false] rfl rfl (take_ofW HT_.out HW_.out (by kernel_rfl)) (fun _ _ _ h=>h) (Or.inl ⟨by rfl,?_⟩) hHeld ?_ ?_
          rotate_left
          ·rintro w' ⟨s0,s1,s2,s3,s4,s5⟩
           go_simp
           with_reducible rfl
          rotate_left
          ·simp only [Act.put,List.setIfInBounds_toArray,List.set_cons_zero,List.set_cons_succ,i64_w,i32_w]
           rfl
          refine pure_ (i:=16) (N:=some 43) (v:=?_) (a':=?_) #[true,true,true,true,true,true,true,true,true,true,true,true,true,true,true,true,true,false,false] rfl rfl (any_of HT_.out (by kernel_rfl)) (fun _ _ _ h=>h) (Or.inl ⟨by rfl,?_⟩) ?_ ?_
          rotate_left
          ·intro w'
           go_simp
           with_reducible rfl
          rotate_left
          ·simp only [Act.put,List.setIfInBounds_toArray,List.set_cons_zero,List.set_cons_succ,i64_w,i32_w]
           rfl
          refine pure_ (i:=17) (N:=some 44) (v:=?_) (a':=?_) #[true,true,true,true,true,true,true,true,true,true,true,true,true,true,true,true,true,true,false] rfl rfl (any_of HT_.out (by kernel_rfl)) (fun _ _ _ h=>h) (Or.inl ⟨by rfl,?_⟩) ?_ ?_
          rotate_left
          ·intro w'
           go_simp
           with_reducible rfl
          rotate_left
          ·simp only [Act.put,List.setIfInBounds_toArray,List.set_cons_zero,List.set_cons_succ,i64_w,i32_w]
           rfl
          refine pure_ (i:=18) (N:=some 26) (v:=?_) (a':=?_) #[true,true,true,true,true,true,true,true,true,true,true,true,true,true,true,true,true,true,true] rfl rfl (any_of HT_.out (by kernel_rfl)) (fun _ _ _ h=>h) (Or.inl ⟨by rfl,?_⟩) ?_ ?_
          rotate_left
          ·intro w'
           go_simp
           with_reducible rfl
          rotate_left
          ·simp only [Act.put,List.setIfInBounds_toArray,List.set_cons_zero,List.set_cons_succ,i64_w,i32_w]
           rfl
          refine done_ (done_of HT_.out (by kernel_rfl)) ?_
          try go_wp2
          have n0_:=Z0.mk (Kd.R_drew HO_3.out)
          have n1_:=Z0.mk (zkD BK146.out)
          have n2_:=Z0.mk (zb1 HB.out)
          clear HO_3
          clear BK146
          clear HB
          have HO_3:=n0_
          have BK146:=n1_
          have HB:=n2_
          clear n0_ n1_ n2_
          have p151 : 0≤((ji13):Int):=of_decide_eq_true (by first|(with_reducible assumption)|assumption)
          have q151:(ji13) < (x3_1.length:Int):=of_decide_eq_true (by first|(with_reducible assumption)|assumption)
          obtain ⟨ad151,e151,hx151_0,hx151_1⟩:=at_T103 (Kd.R_reads' HO_3.out).2.2 (ji13) p151 q151
          obtain rfl : ad149=ad151:=(by injection e151)
          replace p151:=eq_true p151
          replace q151:=eq_true q151
          have p17 : 0≤((ji13):Int):=of_decide_eq_true (by first|(with_reducible assumption)|assumption)
          have q17:((ji13):Int) < ((x3_1.length:Int):Int):=of_decide_eq_true (by first|(with_reducible assumption)|assumption)
          obtain ⟨go17,co17,eo17,gb17,gl17,cl17,HG17⟩:=Kd.R_form HO_3.out (by omega)
          (first|cases eo17|(injection eo17 with ea_ en_ ec_;(first|subst ea_|(injection ea_ with ea_;subst ea_));subst ec_;clear en_))
          have GB17:=Z0.mk gb17
          have GG17:=Z0.mk HG17
          clear gb17 gl17 HG17
          (first|simp only [add_plain] at hx149_0|skip)
          (first|simp only [add_plain] at hx149_1|skip)
          (first|simp only [add_plain] at hx150_0|skip)
          (first|simp only [add_plain] at hx150_1|skip)
          (first|simp only [add_plain] at hx151_0|skip)
          (first|simp only [add_plain] at hx151_1|skip)
          obtain ⟨ce17,hcl17,hM17,hcc17,hfr17⟩:=Kd.R_elem HO_3.out z103 ((ji13):Int) p17 q17
          obtain rfl:=k103_openM hM17
          have hx17_0:World.cell? _ ⟨go17,((ji13):Int).toNat * 2,none⟩=some (.int .i64 ((rd_T103 x3_1 (ji13)).f0)):=hcc17 0 _ rfl
          have hx17_1:World.cell? _ ⟨go17,((ji13):Int).toNat * 2 + 1,none⟩=some (.int .i64 ((rd_T103 x3_1 (ji13)).f1)):=hcc17 1 _ rfl
          have hf17_0:World.frozen? _ ⟨go17,((ji13):Int).toNat * 2,none⟩=false:=hfr17 0
          have hf17_1:World.frozen? _ ⟨go17,((ji13):Int).toNat * 2 + 1,none⟩=false:=hfr17 1
          clear hcl17 hcc17 hfr17 hM17
          replace p17:=eq_true p17
          replace q17:=eq_true q17
          obtain ⟨ce26,hcl26,hM26,hcc26,hfr26⟩:=Kd.R_elem HO_3.out z103 ((ji13):Int) (of_decide_eq_true (by first|(with_reducible assumption)|assumption)) (by have h_:((ji13):Int) < ((x3_1.length:Int):Int):=of_decide_eq_true (by first|(with_reducible assumption)|assumption);first|exact h_|(have e_:=(Kd.R_reads' HO_3.out).1;omega)|simpa using h_)
          obtain rfl:=k103_openM hM26
          have HP26:=(Kd.R_seg HO_3.out ((ji13):Int) (of_decide_eq_true (by first|(with_reducible assumption)|assumption)) (by have h_:((ji13):Int) < ((x3_1.length:Int):Int):=of_decide_eq_true (by first|(with_reducible assumption)|assumption);first|exact h_|(have e_:=(Kd.R_reads' HO_3.out).1;omega)|simpa using h_) (seg:=[.int .i64 (wrap64 (((rd_T103 x3_1 (ji13)).f1) + t148))]) (j:=1) hcl26 hcc26 (show 2≤2 from by decide) (x':=(⟨(rd_T103 x3_1 (ji13)).f0,wrap64 (((rd_T103 x3_1 (ji13)).f1) + t148)⟩:S103)) (k103_mkM _ _ _ (⟨(rd_T103 x3_1 (ji13)).f0,wrap64 (((rd_T103 x3_1 (ji13)).f1) + t148)⟩:S103) ) (fun _ hk=>hk)).1
          rw [← Ny152.out] at HP26
          have HQ26:=Z0.mk HP26
          clear hcl26 hcc26 hfr26 hM26 HP26
          refine start_ (n:=11) (S:=fun w'=>w'.cell? ⟨gb146,0,none⟩=some (.int .i64 t147)∧w'.cell? ⟨gb146,1,none⟩=some (.int .i64 t148)∧w'.cell? ⟨go17,((ji13)).toNat * 2,none⟩=some (.int .i64 ((rd_T103 x3_1 (ji13)).f0))∧w'.cell? ⟨go17,((ji13)).toNat * 2 + 1,none⟩=some (.int .i64 ((rd_T103 x3_1 (ji13)).f1))) (ds:=[10]) #[false,false,false,false,false,false,false,false,false,false,false] (by kernel_rfl) rfl rfl ⟨(zkC BK146.out 0).trans rfl,(zkC BK146.out 1).trans rfl,hx151_0,hx151_1⟩ (fun hHeld=>?_);refine with_tabW extent_Join.tab10 extent_Join.bits10 (fun HT_ HW_=>?_)
          generalize w24.drew=w25 at HO_3 BK146 HB GG17 HQ26 hf17_0 hf17_1 hx149_0 hx149_1 hx150_0 hx150_1 hx151_0 hx151_1 hx17_0 hx17_1 hHeld ⊢
          refine pure_ (i:=0) (N:=some 45) (v:=?_) (a':=?_) #[true,false,false,false,false,false,false,false,false,false,false] rfl rfl (any_of HT_.out (by kernel_rfl)) (fun _ _ _ h=>h) (Or.inl ⟨by rfl,?_⟩) ?_ ?_
          rotate_left
          ·intro w'
           go_simp
           with_reducible rfl
          rotate_left
          ·simp only [Act.put,List.setIfInBounds_toArray,List.set_cons_zero,List.set_cons_succ,i64_w,i32_w]
           rfl
          refine pure_ (i:=1) (N:=some 46) (v:=?_) (a':=?_) #[true,true,false,false,false,false,false,false,false,false,false] rfl rfl (any_of HT_.out (by kernel_rfl)) (fun _ _ _ h=>h) (Or.inl ⟨by rfl,?_⟩) ?_ ?_
          rotate_left
          ·intro w'
           go_simp
           with_reducible rfl
          rotate_left
          ·simp only [Act.put,List.setIfInBounds_toArray,List.set_cons_zero,List.set_cons_succ,i64_w,i32_w]
           rfl
          refine pure_ (i:=2) (N:=some 47) (v:=?_) (a':=?_) #[true,true,true,false,false,false,false,false,false,false,false] rfl rfl (any_of HT_.out (by kernel_rfl)) (fun _ _ _ h=>h) (Or.inl ⟨by rfl,?_⟩) ?_ ?_
          rotate_left
          ·intro w'
           go_simp
           with_reducible rfl
          rotate_left
          ·simp only [Act.put,List.setIfInBounds_toArray,List.set_cons_zero,List.set_cons_succ,i64_w,i32_w]
           rfl
          refine pure_ (i:=3) (N:=some 48) (v:=?_) (a':=?_) #[true,true,true,true,false,false,false,false,false,false,false] rfl rfl (any_of HT_.out (by kernel_rfl)) (fun _ _ _ h=>h) (Or.inl ⟨by rfl,?_⟩) ?_ ?_
          rotate_left
          ·intro w'
           go_simp
           with_reducible rfl
          rotate_left
          ·simp only [Act.put,List.setIfInBounds_toArray,List.set_cons_zero,List.set_cons_succ,i64_w,i32_w]
           rfl
          refine pure_ (i:=5) (N:=some 50) (v:=?_) (a':=?_) #[true,true,true,true,false,true,false,false,false,false,false] rfl rfl (any_of HT_.out (by kernel_rfl)) (fun _ _ _ h=>h) (Or.inl ⟨by rfl,?_⟩) ?_ ?_
          rotate_left
          ·intro w'
           go_simp
           with_reducible rfl
          rotate_left
          ·simp only [Act.put,List.setIfInBounds_toArray,List.set_cons_zero,List.set_cons_succ,i64_w,i32_w]
           rfl
          refine take_ (i:=4) (N:=some 49) (v:=?_) (a':=?_) #[true,true,true,true,true,true,false,false,false,false,false] rfl rfl (take_ofW HT_.out HW_.out (by kernel_rfl)) (fun _ _ _ h=>h) (Or.inl ⟨by rfl,?_⟩) hHeld ?_ ?_
          rotate_left
          ·rintro w' ⟨s0,s1,s2,s3⟩
           go_simp
           with_reducible rfl
          rotate_left
          ·simp only [Act.put,List.setIfInBounds_toArray,List.set_cons_zero,List.set_cons_succ,i64_w,i32_w]
           rfl
          refine take_ (i:=6) (N:=some 51) (v:=?_) (a':=?_) #[true,true,true,true,true,true,true,false,false,false,false] rfl rfl (take_ofW HT_.out HW_.out (by kernel_rfl)) (fun _ _ _ h=>h) (Or.inl ⟨by rfl,?_⟩) hHeld ?_ ?_
          rotate_left
          ·rintro w' ⟨s0,s1,s2,s3⟩
           go_simp
           with_reducible rfl
          rotate_left
          ·simp only [Act.put,List.setIfInBounds_toArray,List.set_cons_zero,List.set_cons_succ,i64_w,i32_w]
           rfl
          refine pure_ (i:=7) (N:=some 52) (v:=?_) (a':=?_) #[true,true,true,true,true,true,true,true,false,false,false] rfl rfl (any_of HT_.out (by kernel_rfl)) (fun _ _ _ h=>h) (Or.inl ⟨by rfl,?_⟩) ?_ ?_
          rotate_left
          ·intro w'
           go_simp
           with_reducible rfl
          rotate_left
          ·simp only [Act.put,List.setIfInBounds_toArray,List.set_cons_zero,List.set_cons_succ,i64_w,i32_w]
           rfl
          refine pure_ (i:=8) (N:=some 53) (v:=?_) (a':=?_) #[true,true,true,true,true,true,true,true,true,false,false] rfl rfl (any_of HT_.out (by kernel_rfl)) (fun _ _ _ h=>h) (Or.inl ⟨by rfl,?_⟩) ?_ ?_
          rotate_left
          ·intro w'
           go_simp
           with_reducible rfl
          rotate_left
          ·simp only [Act.put,List.setIfInBounds_toArray,List.set_cons_zero,List.set_cons_succ,i64_w,i32_w]
           rfl
          refine pure_ (i:=9) (N:=some 54) (v:=?_) (a':=?_) #[true,true,true,true,true,true,true,true,true,true,false] rfl rfl (any_of HT_.out (by kernel_rfl)) (fun _ _ _ h=>h) (Or.inl ⟨by rfl,?_⟩) ?_ ?_
          rotate_left
          ·intro w'
           go_simp
           with_reducible rfl
          rotate_left
          ·simp only [Act.put,List.setIfInBounds_toArray,List.set_cons_zero,List.set_cons_succ,i64_w,i32_w]
           rfl
          refine last_ (i:=10) (N:=none) #[true,true,true,true,true,true,true,true,true,true,true] rfl rfl (one_of HT_.out (by kernel_rfl)) (by decide) (fun K hK=>?_)
          refine skip_ (w1:=?_) (by rfl) rfl ?_ ?_
          rotate_left
          ·go_simp
           rfl
          refine hK.out _ _ ?_
          clear hK K
          refine done_ (done_of HT_.out (by kernel_rfl)) ?_
          try go_wp2
          go_roundg k1
          case measure=>have:=HK1.out;omega
          case rel=>exact ⟨(y152),(wrap64 (x9_1 + 1)),(by first|rfl|(simp;done)|(simp [*];done)),H',⟨by have:=HK1.out;omega⟩,⟨by (with_reducible repeat (first|apply Kd.R_alloc|apply Kd.R_drewN|apply Kd.R_drew));exact Kd.R_mono HQ26.out (fun _ hk=>trivial)⟩,⟨by repeat (first|(with_reducible first|exact HB.out|apply zbA|apply zbN|apply zb1|refine zbS ?_ GB17.out|refine zbS ?_ GE146.out)|exact HB.out)⟩⟩
         rw [if_neg c16] at H
         have c16b0:((wrap64 (((rd_T103 x3_1 (ji13)).f0) + ((rd_T103 x3_1 (ji13)).f1))) == t147)=false:=beq_eq_false_iff_ne.mpr c16
         have c16b1:((wrap64 (((rd_T103 x3_1 (ji13)).f0) + ((rd_T103 x3_1 (ji13)).f1))) != t147)=true:=bne_iff_ne.mpr c16
         by_cases c27 : x3_1.length < 8796093022208
         ·rw [if_pos c27] at H
          have LMc27:=Z0.mk c27
          clear c27
          obtain ⟨y153,hy153⟩:∃ y_:List (S103),y_=(x3_1++[(⟨t147,t148⟩:S103)]):=⟨_,rfl⟩
          replace H:(extent_Join.l0 k1 y153 l0 (l0.length:Int) (wrap64 (x9_1 + 1)))=some r:=by first|(rw [hy153];with_reducible exact H)|(have H2_:=(Option.bind_some _ _).symm.trans H;rw [hy153];with_reducible exact H2_)|(have H2_:=(Option.bind_some _ _).symm.trans H;with_reducible exact H2_)|with_reducible exact H|(rw [hy153];exact H)|exact H
          have Ny153:=Z0.mk hy153
          clear hy153
          have H':=Z0.mk H
          clear H
          have p145 : 0≤(x9_1:Int):=of_decide_eq_true (by first|(with_reducible assumption)|assumption)
          have q145 : x9_1 < (l0.length:Int):=of_decide_eq_true (by first|(with_reducible assumption)|assumption)
          obtain ⟨ad145,e145,hx145_0,hx145_1⟩:=at_T103 HR0.out x9_1 p145 q145
          cases e145
          replace hx145_0:=(HB.out.cell (World.block_lt_of_cell? w _ hx145_0)).trans hx145_0
          replace hx145_1:=(HB.out.cell (World.block_lt_of_cell? w _ hx145_1)).trans hx145_1
          replace p145:=eq_true p145
          replace q145:=eq_true q145
          try go_wp2_with (first|((with_reducible refine gate_dst (N:=5) rfl ?_);refine box_event ?hg (N:=5) ?hd (cs:=#[.int .i64 0,.int .i64 0]) (t:=103) ?hr ?_;(case hd=>rfl);(case hg=>rfl);(case hr=>first|(go_simp;done)|(go_simp;rfl));intro gb146 hg w28 hbox hb;have n0_:=Z0.mk (Kd.R_below (Kd.R_elderB (by (with_reducible repeat (first|apply Kd.R_alloc|apply Kd.R_drewN|apply Kd.R_drew));exact HO_3.out) gb146 (Nat.le_of_eq hg.symm)) hb);have n1_:=Z0.mk (below_step (by repeat (first|(with_reducible first|exact HB.out|apply zbA|apply zbN|apply zb1)|exact HB.out)) hb);have n2_:=Z0.mk (hbox);have n3_:=Z0.mk ((by rw [hg];exact (below_size (by repeat (first|(with_reducible first|exact HB.out|apply zbA|apply zbN|apply zb1)|exact HB.out))) : w.heap.size≤gb146));have n4_:=Z0.mk ((by rw [hg];exact (below_size (by repeat (first|(with_reducible first|exact HB.out|apply zbA|apply zbN|apply zb1)|exact HB.out))) : w.heap.size≤gb146));clear HO_3;clear HB;have HO_3:=n0_;have HB:=n1_;have BK146:=n2_;have GW146:=n3_;have GE146:=n4_;clear n0_ n1_ n2_ n3_ n4_;clear hb hbox hg;have hcz29_0 : w28.cell? ⟨gb146,0,none⟩=some (.int .i64 0):=(zkC BK146.out 0).trans rfl;have hcz29_1 : w28.cell? ⟨gb146,1,none⟩=some (.int .i64 0):=(zkC BK146.out 1).trans rfl;have hfz29_0:=zkF BK146.out 0;have hfz29_1:=zkF BK146.out 1)|((with_reducible refine gate_callee (f:=95) rfl ?_);refine goesL_ (some 14) rfl rfl Try.func95 (by kernel_rfl) rfl #[.agg #[.int .i64 ((rd_T103 l0 x9_1).f0),.int .i64 ((rd_T103 l0 x9_1).f1)]] rfl (by (try simp only [List.map_toArray,List.map_cons,List.map_nil]);first|done|rfl|(simp only [List.length_drop,List.length_take];rfl)) ?_;(with_reducible refine (extent_clip.calls k1 ((rd_T103 l0 x9_1).f0) ((rd_T103 l0 x9_1).f1) t147 t148 _ A5.out).mono ?_);rintro e w30 ⟨rfl,hb⟩;refine ⟨_,rfl,?_⟩;have n0_:=Z0.mk (Kd.R_below (by (with_reducible repeat (first|apply Kd.R_alloc|apply Kd.R_drewN|apply Kd.R_drew));exact (Kd.R_mono (Kd.R_far (p:=⟨gb146,1,none⟩) (Kd.R_far (p:=⟨gb146,0,none⟩) (Kd.R_mono HO_3.out (fun k_ hk=>(⟨hk,hk.2⟩ : _∧k_ ≠ gb146))) (fun _ hk=>hk.2) (.int .i64 ((rd_T103 l0 x9_1).f0))) (fun _ hk=>hk.2) (.int .i64 ((rd_T103 l0 x9_1).f1))) (fun _ h_=>h_.1))) hb);have n1_:=Z0.mk (blk_below (g:=gb146) (o:=.cells #[.int .i64 ((rd_T103 l0 x9_1).f0),.int .i64 ((rd_T103 l0 x9_1).f1)] 103 (0,0)) (by (with_reducible repeat (first|refine zkN ?_ _|refine zkD ?_|refine zkA ?_ _));refine blk_put (cs:=#[.int .i64 ((rd_T103 l0 x9_1).f0),.int .i64 0]) ?_ 1 _ rfl;(with_reducible repeat (first|refine zkN ?_ _|refine zkD ?_|refine zkA ?_ _));refine blk_put (cs:=#[.int .i64 0,.int .i64 0]) ?_ 0 _ rfl;(with_reducible repeat (first|refine zkN ?_ _|refine zkD ?_|refine zkA ?_ _));exact BK146.out) hb);have n2_:=Z0.mk (below_step (by repeat (first|(with_reducible first|exact HB.out|apply zbA|apply zbN|apply zb1|refine zbS ?_ GE146.out)|exact HB.out)) hb);clear HO_3;clear BK146;clear HB;have HO_3:=n0_;have BK146:=n1_;have HB:=n2_;clear n0_ n1_ n2_;(try clear hb);(try clear hb2);(try clear hk);(try clear hi);have hcz31_0 : w30.cell? ⟨gb146,0,none⟩=some (.int .i64 ((rd_T103 l0 x9_1).f0)):=(zkC BK146.out 0).trans rfl;have hcz31_1 : w30.cell? ⟨gb146,1,none⟩=some (.int .i64 ((rd_T103 l0 x9_1).f1)):=(zkC BK146.out 1).trans rfl;have hfz31_0:=zkF BK146.out 0;have hfz31_1:=zkF BK146.out 1;obtain ⟨Ao32,co32,eo32⟩:=Kd.R_slice HO_3.out;subst eo32))
          have n0_:Z0 (Kd.R k103 103 ((w30.setCell ⟨gb146,0,none⟩ (.int .i64 t147)).setCell ⟨gb146,1,none⟩ (.int .i64 t148)) w.heap.size (fun k_=>k_ ≠ gb146) (.slice Ao32 x3_1.length co32) x3_1):=⟨by (with_reducible repeat (first|apply Kd.R_alloc|apply Kd.R_drewN|apply Kd.R_drew));exact Kd.R_mono (Kd.R_far (p:=⟨gb146,1,none⟩) (Kd.R_far (p:=⟨gb146,0,none⟩) (Kd.R_mono HO_3.out (fun k_ hk=>(⟨hk,hk.2⟩ : _∧k_ ≠ gb146))) (fun _ hk=>hk.2) (.int .i64 t147)) (fun _ hk=>hk.2) (.int .i64 t148)) (fun _ hk=>hk.1.2)⟩
          have n1_:Z0 (((w30.setCell ⟨gb146,0,none⟩ (.int .i64 t147)).setCell ⟨gb146,1,none⟩ (.int .i64 t148)).heap[gb146]?=some (.cells #[.int .i64 t147,.int .i64 t148] 103 (0,0))):=⟨by (with_reducible repeat (first|refine zkN ?_ _|refine zkD ?_|refine zkA ?_ _));refine blk_put (cs:=#[.int .i64 t147,.int .i64 ((rd_T103 l0 x9_1).f1)]) ?_ 1 _ rfl;(with_reducible repeat (first|refine zkN ?_ _|refine zkD ?_|refine zkA ?_ _));refine blk_put (cs:=#[.int .i64 ((rd_T103 l0 x9_1).f0),.int .i64 ((rd_T103 l0 x9_1).f1)]) ?_ 0 _ rfl;(with_reducible repeat (first|refine zkN ?_ _|refine zkD ?_|refine zkA ?_ _));exact BK146.out⟩
          have n2_:Z0 (Below w.heap.size w ((w30.setCell ⟨gb146,0,none⟩ (.int .i64 t147)).setCell ⟨gb146,1,none⟩ (.int .i64 t148))):=⟨by repeat (first|(with_reducible first|exact HB.out|apply zbA|apply zbN|apply zb1|refine zbS ?_ GE146.out)|exact HB.out)⟩
          (try clear HO_3)
          (try clear BK146)
          (try clear HB)
          generalize ((w30.setCell ⟨gb146,0,none⟩ (.int .i64 t147)).setCell ⟨gb146,1,none⟩ (.int .i64 t148))=w33 at n0_ n1_ n2_ ⊢
          have HO_3:=n0_
          have BK146:=n1_
          have HB:=n2_
          clear n0_ n1_ n2_
          have n0_:=Z0.mk (Kd.R_drew HO_3.out)
          have n1_:=Z0.mk (zkD BK146.out)
          have n2_:=Z0.mk (zb1 HB.out)
          clear HO_3
          clear BK146
          clear HB
          have HO_3:=n0_
          have BK146:=n1_
          have HB:=n2_
          clear n0_ n1_ n2_
          have p149 : 0≤((ji13):Int):=of_decide_eq_true (by first|(with_reducible assumption)|assumption)
          have q149:(ji13) < (x3_1.length:Int):=of_decide_eq_true (by first|(with_reducible assumption)|assumption)
          obtain ⟨ad149,e149,hx149_0,hx149_1⟩:=at_T103 (Kd.R_reads' HO_3.out).2.2 (ji13) p149 q149
          cases e149
          replace p149:=eq_true p149
          replace q149:=eq_true q149
          have p150 : 0≤((ji13):Int):=of_decide_eq_true (by first|(with_reducible assumption)|assumption)
          have q150:(ji13) < (x3_1.length:Int):=of_decide_eq_true (by first|(with_reducible assumption)|assumption)
          obtain ⟨ad150,e150,hx150_0,hx150_1⟩:=at_T103 (Kd.R_reads' HO_3.out).2.2 (ji13) p150 q150
          obtain rfl : ad149=ad150:=(by injection e150)
          replace p150:=eq_true p150
          replace q150:=eq_true q150
          refine start_ (n:=19) (S:=fun w'=>w'.cell? ⟨gb146,0,none⟩=some (.int .i64 t147)∧w'.cell? ⟨gb146,1,none⟩=some (.int .i64 t148)∧w'.cell? (ad149.add (((ji13)).toNat * 2))=some (.int .i64 ((rd_T103 x3_1 (ji13)).f0))∧w'.cell? ⟨(ad149.add (((ji13)).toNat * 2)).block,(ad149.add (((ji13)).toNat * 2)).off + 1,none⟩=some (.int .i64 ((rd_T103 x3_1 (ji13)).f1))∧w'.cell? (ad149.add (((ji13)).toNat * 2))=some (.int .i64 ((rd_T103 x3_1 (ji13)).f0))∧w'.cell? ⟨(ad149.add (((ji13)).toNat * 2)).block,(ad149.add (((ji13)).toNat * 2)).off + 1,none⟩=some (.int .i64 ((rd_T103 x3_1 (ji13)).f1))) (ds:=[]) #[false,false,false,false,false,false,false,false,false,false,false,false,false,false,false,false,false,false,false] (by kernel_rfl) rfl rfl ⟨(zkC BK146.out 0).trans rfl,(zkC BK146.out 1).trans rfl,hx149_0,hx149_1,hx150_0,hx150_1⟩ (fun hHeld=>?_);refine with_tabW extent_Join.tab9 extent_Join.bits9 (fun HT_ HW_=>?_)
          generalize w33.drew=w34 at HO_3 BK146 HB hx149_0 hx149_1 hx150_0 hx150_1 hHeld ⊢
          refine pure_ (i:=0) (N:=some 27) (v:=?_) (a':=?_) #[true,false,false,false,false,false,false,false,false,false,false,false,false,false,false,false,false,false,false] rfl rfl (any_of HT_.out (by kernel_rfl)) (fun _ _ _ h=>h) (Or.inl ⟨by rfl,?_⟩) ?_ ?_
          rotate_left
          ·intro w'
           go_simp
           with_reducible rfl
          rotate_left
          ·simp only [Act.put,List.setIfInBounds_toArray,List.set_cons_zero,List.set_cons_succ,i64_w,i32_w]
           rfl
          refine pure_ (i:=1) (N:=some 28) (v:=?_) (a':=?_) #[true,true,false,false,false,false,false,false,false,false,false,false,false,false,false,false,false,false,false] rfl rfl (any_of HT_.out (by kernel_rfl)) (fun _ _ _ h=>h) (Or.inl ⟨by rfl,?_⟩) ?_ ?_
          rotate_left
          ·intro w'
           go_simp
           with_reducible rfl
          rotate_left
          ·simp only [Act.put,List.setIfInBounds_toArray,List.set_cons_zero,List.set_cons_succ,i64_w,i32_w]
           rfl
          refine pure_ (i:=2) (N:=some 29) (v:=?_) (a':=?_) #[true,true,true,false,false,false,false,false,false,false,false,false,false,false,false,false,false,false,false] rfl rfl (any_of HT_.out (by kernel_rfl)) (fun _ _ _ h=>h) (Or.inl ⟨by rfl,?_⟩) ?_ ?_
          rotate_left
          ·intro w'
           go_simp
           with_reducible rfl
          rotate_left
          ·simp only [Act.put,List.setIfInBounds_toArray,List.set_cons_zero,List.set_cons_succ,i64_w,i32_w]
           rfl
          refine pure_ (i:=3) (N:=some 30) (v:=?_) (a':=?_) #[true,true,true,true,false,false,false,false,false,false,false,false,false,false,false,false,false,false,false] rfl rfl (any_of HT_.out (by kernel_rfl)) (fun _ _ _ h=>h) (Or.inl ⟨by rfl,?_⟩) ?_ ?_
          rotate_left
          ·intro w'
           go_simp
           with_reducible rfl
          rotate_left
          ·simp only [Act.put,List.setIfInBounds_toArray,List.set_cons_zero,List.set_cons_succ,i64_w,i32_w]
           rfl
          refine pure_ (i:=4) (N:=some 31) (v:=?_) (a':=?_) #[true,true,true,true,true,false,false,false,false,false,false,false,false,false,false,false,false,false,false] rfl rfl (any_of HT_.out (by kernel_rfl)) (fun _ _ _ h=>h) (Or.inl ⟨by rfl,?_⟩) ?_ ?_
          rotate_left
          ·intro w'
           go_simp
           with_reducible rfl
          rotate_left
          ·simp only [Act.put,List.setIfInBounds_toArray,List.set_cons_zero,List.set_cons_succ,i64_w,i32_w]
           rfl
          refine pure_ (i:=5) (N:=some 32) (v:=?_) (a':=?_) #[true,true,true,true,true,true,false,false,false,false,false,false,false,false,false,false,false,false,false] rfl rfl (any_of HT_.out (by kernel_rfl)) (fun _ _ _ h=>h) (Or.inl ⟨by rfl,?_⟩) ?_ ?_
          rotate_left
          ·intro w'
           go_simp
           with_reducible rfl
          rotate_left
          ·simp only [Act.put,List.setIfInBounds_toArray,List.set_cons_zero,List.set_cons_succ,i64_w,i32_w]
           rfl
          refine pure_ (i:=6) (N:=some 33) (v:=?_) (a':=?_) #[true,true,true,true,true,true,true,false,false,false,false,false,false,false,false,false,false,false,false] rfl rfl (any_of HT_.out (by kernel_rfl)) (fun _ _ _ h=>h) (Or.inl ⟨by rfl,?_⟩) ?_ ?_
          rotate_left
          ·intro w'
           go_simp
           with_reducible rfl
          rotate_left
          ·simp only [Act.put,List.setIfInBounds_toArray,List.set_cons_zero,List.set_cons_succ,i64_w,i32_w]
           rfl
          refine pure_ (i:=8) (N:=some 35) (v:=?_) (a':=?_) #[true,true,true,true,true,true,true,false,true,false,false,false,false,false,false,false,false,false,false] rfl rfl (any_of HT_.out (by kernel_rfl)) (fun _ _ _ h=>h) (Or.inl ⟨by rfl,?_⟩) ?_ ?_
          rotate_left
          ·intro w'
           go_simp
           with_reducible rfl
          rotate_left
          ·simp only [Act.put,List.setIfInBounds_toArray,List.set_cons_zero,List.set_cons_succ,i64_w,i32_w]
           rfl
          refine pure_ (i:=9) (N:=some 36) (v:=?_) (a':=?_) #[true,true,true,true,true,true,true,false,true,true,false,false,false,false,false,false,false,false,false] rfl rfl (any_of HT_.out (by kernel_rfl)) (fun _ _ _ h=>h) (Or.inl ⟨by rfl,?_⟩) ?_ ?_
          rotate_left
          ·intro w'
           go_simp
           with_reducible rfl
          rotate_left
          ·simp only [Act.put,List.setIfInBounds_toArray,List.set_cons_zero,List.set_cons_succ,i64_w,i32_w]
           rfl
          refine pure_ (i:=10) (N:=some 37) (v:=?_) (a':=?_) #[true,true,true,true,true,true,true,false,true,true,true,false,false,false,false,false,false,false,false] rfl rfl (any_of HT_.out (by kernel_rfl)) (fun _ _ _ h=>h) (Or.inl ⟨by rfl,?_⟩) ?_ ?_
          rotate_left
          ·intro w'
           go_simp
           with_reducible rfl
          rotate_left
          ·simp only [Act.put,List.setIfInBounds_toArray,List.set_cons_zero,List.set_cons_succ,i64_w,i32_w]
           rfl
          refine pure_ (i:=11) (N:=some 38) (v:=?_) (a':=?_) #[true,true,true,true,true,true,true,false,true,true,true,true,false,false,false,false,false,false,false] rfl rfl (any_of HT_.out (by kernel_rfl)) (fun _ _ _ h=>h) (Or.inl ⟨by rfl,?_⟩) ?_ ?_
          rotate_left
          ·intro w'
           go_simp
           with_reducible rfl
          rotate_left
          ·simp only [Act.put,List.setIfInBounds_toArray,List.set_cons_zero,List.set_cons_succ,i64_w,i32_w]
           rfl
          refine pure_ (i:=14) (N:=some 41) (v:=?_) (a':=?_) #[true,true,true,true,true,true,true,false,true,true,true,true,false,false,true,false,false,false,false] rfl rfl (any_of HT_.out (by kernel_rfl)) (fun _ _ _ h=>h) (Or.inl ⟨by rfl,?_⟩) ?_ ?_
          rotate_left
          ·intro w'
           go_simp
           with_reducible rfl
          rotate_left
          ·simp only [Act.put,List.setIfInBounds_toArray,List.set_cons_zero,List.set_cons_succ,i64_w,i32_w]
           rfl
          refine take_ (i:=7) (N:=some 34) (v:=?_) (a':=?_) #[true,true,true,true,true,true,true,true,true,true,true,true,false,false,true,false,false,false,false] rfl rfl (take_ofW HT_.out HW_.out (by kernel_rfl)) (fun _ _ _ h=>h) (Or.inl ⟨by rfl,?_⟩) hHeld ?_ ?_
          rotate_left
          ·rintro w' ⟨s0,s1,s2,s3,s4,s5⟩
           go_simp
           with_reducible rfl
          rotate_left
          ·simp only [Act.put,List.setIfInBounds_toArray,List.set_cons_zero,List.set_cons_succ,i64_w,i32_w]
           rfl
          refine take_ (i:=12) (N:=some 39) (v:=?_) (a':=?_) #[true,true,true,true,true,true,true,true,true,true,true,true,true,false,true,false,false,false,false] rfl rfl (take_ofW HT_.out HW_.out (by kernel_rfl)) (fun _ _ _ h=>h) (Or.inl ⟨by rfl,?_⟩) hHeld ?_ ?_
          rotate_left
          ·rintro w' ⟨s0,s1,s2,s3,s4,s5⟩
           go_simp
           with_reducible rfl
          rotate_left
          ·simp only [Act.put,List.setIfInBounds_toArray,List.set_cons_zero,List.set_cons_succ,i64_w,i32_w]
           rfl
          refine pure_ (i:=13) (N:=some 40) (v:=?_) (a':=?_) #[true,true,true,true,true,true,true,true,true,true,true,true,true,true,true,false,false,false,false] rfl rfl (any_of HT_.out (by kernel_rfl)) (fun _ _ _ h=>h) (Or.inl ⟨by rfl,?_⟩) ?_ ?_
          rotate_left
          ·intro w'
           go_simp
           with_reducible rfl
          rotate_left
          ·simp only [Act.put,List.setIfInBounds_toArray,List.set_cons_zero,List.set_cons_succ,i64_w,i32_w]
           rfl
          refine take_ (i:=15) (N:=some 42) (v:=?_) (a':=?_) #[true,true,true,true,true,true,true,true,true,true,true,true,true,true,true,true,false,false,false] rfl rfl (take_ofW HT_.out HW_.out (by kernel_rfl)) (fun _ _ _ h=>h) (Or.inl ⟨by rfl,?_⟩) hHeld ?_ ?_
          rotate_left
          ·rintro w' ⟨s0,s1,s2,s3,s4,s5⟩
           go_simp
           with_reducible rfl
          rotate_left
          ·simp only [Act.put,List.setIfInBounds_toArray,List.set_cons_zero,List.set_cons_succ,i64_w,i32_w]
           rfl
          refine pure_ (i:=16) (N:=some 43) (v:=?_) (a':=?_) #[true,true,true,true,true,true,true,true,true,true,true,true,true,true,true,true,true,false,false] rfl rfl (any_of HT_.out (by kernel_rfl)) (fun _ _ _ h=>h) (Or.inl ⟨by rfl,?_⟩) ?_ ?_
          rotate_left
          ·intro w'
           go_simp
           with_reducible rfl
          rotate_left
          ·simp only [Act.put,List.setIfInBounds_toArray,List.set_cons_zero,List.set_cons_succ,i64_w,i32_w]
           rfl
          refine pure_ (i:=17) (N:=some 44) (v:=?_) (a':=?_) #[true,true,true,true,true,true,true,true,true,true,true,true,true,true,true,true,true,true,false] rfl rfl (any_of HT_.out (by kernel_rfl)) (fun _ _ _ h=>h) (Or.inl ⟨by rfl,?_⟩) ?_ ?_
          rotate_left
          ·intro w'
           go_simp
           with_reducible rfl
          rotate_left
          ·simp only [Act.put,List.setIfInBounds_toArray,List.set_cons_zero,List.set_cons_succ,i64_w,i32_w]
           rfl
          refine pure_ (i:=18) (N:=some 26) (v:=?_) (a':=?_) #[true,true,true,true,true,true,true,true,true,true,true,true,true,true,true,true,true,true,true] rfl rfl (any_of HT_.out (by kernel_rfl)) (fun _ _ _ h=>h) (Or.inl ⟨by rfl,?_⟩) ?_ ?_
          rotate_left
          ·intro w'
           go_simp
           with_reducible rfl
          rotate_left
          ·simp only [Act.put,List.setIfInBounds_toArray,List.set_cons_zero,List.set_cons_succ,i64_w,i32_w]
           rfl
          refine done_ (done_of HT_.out (by kernel_rfl)) ?_
          have hcz35_0 : w34.cell? ⟨gb146,0,none⟩=some (.int .i64 t147):=(zkC BK146.out 0).trans rfl
          have hcz35_1 : w34.cell? ⟨gb146,1,none⟩=some (.int .i64 t148):=(zkC BK146.out 1).trans rfl
          have hfz35_0:=zkF BK146.out 0
          have hfz35_1:=zkF BK146.out 1
          try go_wp2_with (first|((with_reducible refine gate_builtin (b:=.append) (xs:=#[.tmp 18,.tmp 20]) rfl ?_);at_builtin;refine Kd.R_append k103 (w0:=w) w.heap.size rfl (.tmp 18) (.tmp 20) 35 103 (.agg #[(.int .i64 0),(.int .i64 0)]) 16 rfl Try.underlying35 info103 rfl (by decide) (by omega) (.slice (some ad149) x3_1.length co32) x3_1 (⟨t147,t148⟩:S103) [.int .i64 t147,.int .i64 t148] (fun k_=>k_ ≠ gb146) (fun _=>False) rfl rfl ?aP (fun _ hk=>hk.elim) ?aF ?aO ?aB ?aS ?aL ?_;(case aP=>exact k103_mkM _ _ _ (⟨t147,t148⟩:S103));(case aB=>exact (by repeat (first|(with_reducible first|exact HB.out|apply zbA|apply zbN|apply zb1|refine zbS ?_ GE146.out)|exact HB.out)));(case aF=>exact (fun k_ hk=>Kd.freshB (g:=gb146) (o:=.cells #[.int .i64 t147,.int .i64 t148] 103 (0,0)) (by (with_reducible repeat (first|refine zkN ?_ _|refine zkD ?_|refine zkA ?_ _));exact BK146.out) k_ hk));(case aO=>exact (by (with_reducible repeat (first|apply Kd.R_alloc|apply Kd.R_drewN|apply Kd.R_drew));exact HO_3.out));(case aS=>exact (below_size (by repeat (first|(with_reducible first|exact HB.out|apply zbA|apply zbN|apply zb1|refine zbS ?_ GE146.out)|exact HB.out))));(case aL=>have:=LMc27.out;omega);intro v154 w36 ho hb hg hat;rw [← Ny153.out] at ho;have n0_:=Z0.mk (blk_grown (g:=gb146) (o:=.cells #[.int .i64 t147,.int .i64 t148] 103 (0,0)) (by (with_reducible repeat (first|refine zkN ?_ _|refine zkD ?_|refine zkA ?_ _));exact BK146.out) hg (Kd.R_away HO_3.out (fun _ hk=>hk)));have n1_:=Z0.mk (hb);have n2_:=Z0.mk (ho);clear BK146;clear HB;clear HO_3;have BK146:=n0_;have HB:=n1_;have HO155:=n2_;clear n0_ n1_ n2_;clear ho hb hg hat))
          go_roundg k1
          case measure=>have:=HK1.out;omega
          case rel=>exact ⟨(y153),(wrap64 (x9_1 + 1)),(by first|rfl|(simp;done)|(simp [*];done)),H',⟨by have:=HK1.out;omega⟩,⟨by (with_reducible repeat (first|apply Kd.R_alloc|apply Kd.R_drewN|apply Kd.R_drew));exact Kd.R_mono HO155.out (fun _ hk=>trivial)⟩,⟨by repeat (first|(with_reducible first|exact HB.out|apply zbA|apply zbN|apply zb1|refine zbS ?_ GE146.out)|exact HB.out)⟩⟩
         rw [if_neg c27] at H
         exact absurd H (by simp)
        rw [if_neg c15] at H
        exact absurd H (by simp)
       rw [if_neg c14] at H
       exact absurd H (by simp)
      rw [if_neg c12] at H
      have c12b0 : decide (0≤(wrap64 ((x3_1.length:Int) - 1)))=false:=decide_eq_false c12
      clear c12
      by_cases c37 : x3_1.length < 8796093022208
      ·rw [if_pos c37] at H
       have LMc37:=Z0.mk c37
       clear c37
       obtain ⟨y156,hy156⟩:∃ y_:List (S103),y_=(x3_1++[(⟨t147,t148⟩:S103)]):=⟨_,rfl⟩
       replace H:(extent_Join.l0 k1 y156 l0 (l0.length:Int) (wrap64 (x9_1 + 1)))=some r:=by first|(rw [hy156];with_reducible exact H)|(have H2_:=(Option.bind_some _ _).symm.trans H;rw [hy156];with_reducible exact H2_)|(have H2_:=(Option.bind_some _ _).symm.trans H;with_reducible exact H2_)|with_reducible exact H|(rw [hy156];exact H)|exact H
       have Ny156:=Z0.mk hy156
       clear hy156
       have H':=Z0.mk H
       clear H
       have p145 : 0≤(x9_1:Int):=of_decide_eq_true (by first|(with_reducible assumption)|assumption)
       have q145 : x9_1 < (l0.length:Int):=of_decide_eq_true (by first|(with_reducible assumption)|assumption)
       obtain ⟨ad145,e145,hx145_0,hx145_1⟩:=at_T103 HR0.out x9_1 p145 q145
       cases e145
       replace hx145_0:=(HB.out.cell (World.block_lt_of_cell? w _ hx145_0)).trans hx145_0
       replace hx145_1:=(HB.out.cell (World.block_lt_of_cell? w _ hx145_1)).trans hx145_1
       replace p145:=eq_true p145
       replace q145:=eq_true q145
       try go_wp2_with (first|((with_reducible refine gate_dst (N:=5) rfl ?_);refine box_event ?hg (N:=5) ?hd (cs:=#[.int .i64 0,.int .i64 0]) (t:=103) ?hr ?_;(case hd=>rfl);(case hg=>rfl);(case hr=>first|(go_simp;done)|(go_simp;rfl));intro gb146 hg w38 hbox hb;have n0_:=Z0.mk (Kd.R_below (Kd.R_elderB (by (with_reducible repeat (first|apply Kd.R_alloc|apply Kd.R_drewN|apply Kd.R_drew));exact HO_3.out) gb146 (Nat.le_of_eq hg.symm)) hb);have n1_:=Z0.mk (below_step (by repeat (first|(with_reducible first|exact HB.out|apply zbA|apply zbN|apply zb1)|exact HB.out)) hb);have n2_:=Z0.mk (hbox);have n3_:=Z0.mk ((by rw [hg];exact (below_size (by repeat (first|(with_reducible first|exact HB.out|apply zbA|apply zbN|apply zb1)|exact HB.out))) : w.heap.size≤gb146));have n4_:=Z0.mk ((by rw [hg];exact (below_size (by repeat (first|(with_reducible first|exact HB.out|apply zbA|apply zbN|apply zb1)|exact HB.out))) : w.heap.size≤gb146));clear HO_3;clear HB;have HO_3:=n0_;have HB:=n1_;have BK146:=n2_;have GW146:=n3_;have GE146:=n4_;clear n0_ n1_ n2_ n3_ n4_;clear hb hbox hg;have hcz39_0 : w38.cell? ⟨gb146,0,none⟩=some (.int .i64 0):=(zkC BK146.out 0).trans rfl;have hcz39_1 : w38.cell? ⟨gb146,1,none⟩=some (.int .i64 0):=(zkC BK146.out 1).trans rfl;have hfz39_0:=zkF BK146.out 0;have hfz39_1:=zkF BK146.out 1)|((with_reducible refine gate_callee (f:=95) rfl ?_);refine goesL_ (some 14) rfl rfl Try.func95 (by kernel_rfl) rfl #[.agg #[.int .i64 ((rd_T103 l0 x9_1).f0),.int .i64 ((rd_T103 l0 x9_1).f1)]] rfl (by (try simp only [List.map_toArray,List.map_cons,List.map_nil]);first|done|rfl|(simp only [List.length_drop,List.length_take];rfl)) ?_;(with_reducible refine (extent_clip.calls k1 ((rd_T103 l0 x9_1).f0) ((rd_T103 l0 x9_1).f1) t147 t148 _ A5.out).mono ?_);rintro e w40 ⟨rfl,hb⟩;refine ⟨_,rfl,?_⟩;have n0_:=Z0.mk (Kd.R_below (by (with_reducible repeat (first|apply Kd.R_alloc|apply Kd.R_drewN|apply Kd.R_drew));exact (Kd.R_mono (Kd.R_far (p:=⟨gb146,1,none⟩) (Kd.R_far (p:=⟨gb146,0,none⟩) (Kd.R_mono HO_3.out (fun k_ hk=>(⟨hk,hk.2⟩ : _∧k_ ≠ gb146))) (fun _ hk=>hk.2) (.int .i64 ((rd_T103 l0 x9_1).f0))) (fun _ hk=>hk.2) (.int .i64 ((rd_T103 l0 x9_1).f1))) (fun _ h_=>h_.1))) hb);have n1_:=Z0.mk (blk_below (g:=gb146) (o:=.cells #[.int .i64 ((rd_T103 l0 x9_1).f0),.int .i64 ((rd_T103 l0 x9_1).f1)] 103 (0,0)) (by (with_reducible repeat (first|refine zkN ?_ _|refine zkD ?_|refine zkA ?_ _));refine blk_put (cs:=#[.int .i64 ((rd_T103 l0 x9_1).f0),.int .i64 0]) ?_ 1 _ rfl;(with_reducible repeat (first|refine zkN ?_ _|refine zkD ?_|refine zkA ?_ _));refine blk_put (cs:=#[.int .i64 0,.int .i64 0]) ?_ 0 _ rfl;(with_reducible repeat (first|refine zkN ?_ _|refine zkD ?_|refine zkA ?_ _));exact BK146.out) hb);have n2_:=Z0.mk (below_step (by repeat (first|(with_reducible first|exact HB.out|apply zbA|apply zbN|apply zb1|refine zbS ?_ GE146.out)|exact HB.out)) hb);clear HO_3;clear BK146;clear HB;have HO_3:=n0_;have BK146:=n1_;have HB:=n2_;clear n0_ n1_ n2_;(try clear hb);(try clear hb2);(try clear hk);(try clear hi);have hcz41_0 : w40.cell? ⟨gb146,0,none⟩=some (.int .i64 ((rd_T103 l0 x9_1).f0)):=(zkC BK146.out 0).trans rfl;have hcz41_1 : w40.cell? ⟨gb146,1,none⟩=some (.int .i64 ((rd_T103 l0 x9_1).f1)):=(zkC BK146.out 1).trans rfl;have hfz41_0:=zkF BK146.out 0;have hfz41_1:=zkF BK146.out 1;obtain ⟨Ao42,co42,eo42⟩:=Kd.R_slice HO_3.out;subst eo42))
       have n0_:Z0 (Kd.R k103 103 ((w40.setCell ⟨gb146,0,none⟩ (.int .i64 t147)).setCell ⟨gb146,1,none⟩ (.int .i64 t148)) w.heap.size (fun k_=>k_ ≠ gb146) (.slice Ao42 x3_1.length co42) x3_1):=⟨by (with_reducible repeat (first|apply Kd.R_alloc|apply Kd.R_drewN|apply Kd.R_drew));exact Kd.R_mono (Kd.R_far (p:=⟨gb146,1,none⟩) (Kd.R_far (p:=⟨gb146,0,none⟩) (Kd.R_mono HO_3.out (fun k_ hk=>(⟨hk,hk.2⟩ : _∧k_ ≠ gb146))) (fun _ hk=>hk.2) (.int .i64 t147)) (fun _ hk=>hk.2) (.int .i64 t148)) (fun _ hk=>hk.1.2)⟩
       have n1_:Z0 (((w40.setCell ⟨gb146,0,none⟩ (.int .i64 t147)).setCell ⟨gb146,1,none⟩ (.int .i64 t148)).heap[gb146]?=some (.cells #[.int .i64 t147,.int .i64 t148] 103 (0,0))):=⟨by (with_reducible repeat (first|refine zkN ?_ _|refine zkD ?_|refine zkA ?_ _));refine blk_put (cs:=#[.int .i64 t147,.int .i64 ((rd_T103 l0 x9_1).f1)]) ?_ 1 _ rfl;(with_reducible repeat (first|refine zkN ?_ _|refine zkD ?_|refine zkA ?_ _));refine blk_put (cs:=#[.int .i64 ((rd_T103 l0 x9_1).f0),.int .i64 ((rd_T103 l0 x9_1).f1)]) ?_ 0 _ rfl;(with_reducible repeat (first|refine zkN ?_ _|refine zkD ?_|refine zkA ?_ _));exact BK146.out⟩
       have n2_:Z0 (Below w.heap.size w ((w40.setCell ⟨gb146,0,none⟩ (.int .i64 t147)).setCell ⟨gb146,1,none⟩ (.int .i64 t148))):=⟨by repeat (first|(with_reducible first|exact HB.out|apply zbA|apply zbN|apply zb1|refine zbS ?_ GE146.out)|exact HB.out)⟩
       (try clear HO_3)
       (try clear BK146)
       (try clear HB)
       generalize ((w40.setCell ⟨gb146,0,none⟩ (.int .i64 t147)).setCell ⟨gb146,1,none⟩ (.int .i64 t148))=w43 at n0_ n1_ n2_ ⊢
       have HO_3:=n0_
       have BK146:=n1_
       have HB:=n2_
       clear n0_ n1_ n2_
       have n0_:=Z0.mk (Kd.R_drew HO_3.out)
       have n1_:=Z0.mk (zkD BK146.out)
       have n2_:=Z0.mk (zb1 HB.out)
       clear HO_3
       clear BK146
       clear HB
       have HO_3:=n0_
       have BK146:=n1_
       have HB:=n2_
       clear n0_ n1_ n2_
       refine start_ (n:=19) (S:=fun w'=>True) (ds:=[]) #[false,false,false,false,false,false,false,false,false,false,false,false,false,false,false,false,false,false,false] (by kernel_rfl) rfl rfl trivial (fun hHeld=>?_);refine with_tabW extent_Join.tab9 extent_Join.bits9 (fun HT_ HW_=>?_)
       generalize w43.drew=w44 at HO_3 BK146 HB hHeld ⊢
       refine pure_ (i:=0) (N:=some 27) (v:=?_) (a':=?_) #[true,false,false,false,false,false,false,false,false,false,false,false,false,false,false,false,false,false,false] rfl rfl (any_of HT_.out (by kernel_rfl)) (fun _ _ _ h=>h) (Or.inl ⟨by rfl,?_⟩) ?_ ?_
       rotate_left
       ·intro w'
        go_simp
        with_reducible rfl
       rotate_left
       ·simp only [Act.put,List.setIfInBounds_toArray,List.set_cons_zero,List.set_cons_succ,i64_w,i32_w]
        rfl
       refine pure_ (i:=1) (N:=some 28) (v:=?_) (a':=?_) #[true,true,false,false,false,false,false,false,false,false,false,false,false,false,false,false,false,false,false] rfl rfl (any_of HT_.out (by kernel_rfl)) (fun _ _ _ h=>h) (Or.inl ⟨by rfl,?_⟩) ?_ ?_
       rotate_left
       ·intro w'
        go_simp
        with_reducible rfl
       rotate_left
       ·simp only [Act.put,List.setIfInBounds_toArray,List.set_cons_zero,List.set_cons_succ,i64_w,i32_w]
        rfl
       refine pure_ (i:=2) (N:=some 29) (v:=?_) (a':=?_) #[true,true,true,false,false,false,false,false,false,false,false,false,false,false,false,false,false,false,false] rfl rfl (any_of HT_.out (by kernel_rfl)) (fun _ _ _ h=>h) (Or.inl ⟨by rfl,?_⟩) ?_ ?_
       rotate_left
       ·intro w'
        go_simp
        with_reducible rfl
       rotate_left
       ·simp only [Act.put,List.setIfInBounds_toArray,List.set_cons_zero,List.set_cons_succ,i64_w,i32_w]
        rfl
       refine pure_ (i:=3) (N:=some 30) (v:=undef) (a':=?_) #[true,true,true,true,false,false,false,false,false,false,false,false,false,false,false,false,false,false,false] rfl rfl (any_of HT_.out (by kernel_rfl)) (fun _ _ _ h=>h) (Or.inr ⟨by rfl,rfl⟩) ?_ ?_
       rotate_left
       ·simp only [Act.put,List.setIfInBounds_toArray,List.set_cons_zero,List.set_cons_succ,i64_w,i32_w]
        rfl
       refine pure_ (i:=4) (N:=some 31) (v:=undef) (a':=?_) #[true,true,true,true,true,false,false,false,false,false,false,false,false,false,false,false,false,false,false] rfl rfl (any_of HT_.out (by kernel_rfl)) (fun _ _ _ h=>h) (Or.inr ⟨by rfl,rfl⟩) ?_ ?_
       rotate_left
       ·simp only [Act.put,List.setIfInBounds_toArray,List.set_cons_zero,List.set_cons_succ,i64_w,i32_w]
        rfl
       refine pure_ (i:=5) (N:=some 32) (v:=undef) (a':=?_) #[true,true,true,true,true,true,false,false,false,false,false,false,false,false,false,false,false,false,false] rfl rfl (any_of HT_.out (by kernel_rfl)) (fun _ _ _ h=>h) (Or.inr ⟨by rfl,rfl⟩) ?_ ?_
       rotate_left
       ·simp only [Act.put,List.setIfInBounds_toArray,List.set_cons_zero,List.set_cons_succ,i64_w,i32_w]
        rfl
       refine pure_ (i:=6) (N:=some 33) (v:=undef) (a':=?_) #[true,true,true,true,true,true,true,false,false,false,false,false,false,false,false,false,false,false,false] rfl rfl (any_of HT_.out (by kernel_rfl)) (fun _ _ _ h=>h) (Or.inr ⟨by rfl,rfl⟩) ?_ ?_
       rotate_left
       ·simp only [Act.put,List.setIfInBounds_toArray,List.set_cons_zero,List.set_cons_succ,i64_w,i32_w]
        rfl
       refine pure_ (i:=7) (N:=some 34) (v:=undef) (a':=?_) #[true,true,true,true,true,true,true,true,false,false,false,false,false,false,false,false,false,false,false] rfl rfl (any_of HT_.out (by kernel_rfl)) (fun _ _ _ h=>h) (Or.inr ⟨by rfl,rfl⟩) ?_ ?_
       rotate_left
       ·simp only [Act.put,List.setIfInBounds_toArray,List.set_cons_zero,List.set_cons_succ,i64_w,i32_w]
        rfl
       refine pure_ (i:=8) (N:=some 35) (v:=undef) (a':=?_) #[true,true,true,true,true,true,true,true,true,false,false,false,false,false,false,false,false,false,false] rfl rfl (any_of HT_.out (by kernel_rfl)) (fun _ _ _ h=>h) (Or.inr ⟨by rfl,rfl⟩) ?_ ?_
       rotate_left
       ·simp only [Act.put,List.setIfInBounds_toArray,List.set_cons_zero,List.set_cons_succ,i64_w,i32_w]
        rfl
       refine pure_ (i:=9) (N:=some 36) (v:=undef) (a':=?_) #[true,true,true,true,true,true,true,true,true,true,false,false,false,false,false,false,false,false,false] rfl rfl (any_of HT_.out (by kernel_rfl)) (fun _ _ _ h=>h) (Or.inr ⟨by rfl,rfl⟩) ?_ ?_
       rotate_left
       ·simp only [Act.put,List.setIfInBounds_toArray,List.set_cons_zero,List.set_cons_succ,i64_w,i32_w]
        rfl
       refine pure_ (i:=10) (N:=some 37) (v:=undef) (a':=?_) #[true,true,true,true,true,true,true,true,true,true,true,false,false,false,false,false,false,false,false] rfl rfl (any_of HT_.out (by kernel_rfl)) (fun _ _ _ h=>h) (Or.inr ⟨by rfl,rfl⟩) ?_ ?_
       rotate_left
       ·simp only [Act.put,List.setIfInBounds_toArray,List.set_cons_zero,List.set_cons_succ,i64_w,i32_w]
        rfl
       refine pure_ (i:=11) (N:=some 38) (v:=undef) (a':=?_) #[true,true,true,true,true,true,true,true,true,true,true,true,false,false,false,false,false,false,false] rfl rfl (any_of HT_.out (by kernel_rfl)) (fun _ _ _ h=>h) (Or.inr ⟨by rfl,rfl⟩) ?_ ?_
       rotate_left
       ·simp only [Act.put,List.setIfInBounds_toArray,List.set_cons_zero,List.set_cons_succ,i64_w,i32_w]
        rfl
       refine pure_ (i:=12) (N:=some 39) (v:=undef) (a':=?_) #[true,true,true,true,true,true,true,true,true,true,true,true,true,false,false,false,false,false,false] rfl rfl (any_of HT_.out (by kernel_rfl)) (fun _ _ _ h=>h) (Or.inr ⟨by rfl,rfl⟩) ?_ ?_
       rotate_left
       ·simp only [Act.put,List.setIfInBounds_toArray,List.set_cons_zero,List.set_cons_succ,i64_w,i32_w]
        rfl
       refine pure_ (i:=13) (N:=some 40) (v:=undef) (a':=?_) #[true,true,true,true,true,true,true,true,true,true,true,true,true,true,false,false,false,false,false] rfl rfl (any_of HT_.out (by kernel_rfl)) (fun _ _ _ h=>h) (Or.inr ⟨by rfl,rfl⟩) ?_ ?_
       rotate_left
       ·simp only [Act.put,List.setIfInBounds_toArray,List.set_cons_zero,List.set_cons_succ,i64_w,i32_w]
        rfl
       refine pure_ (i:=14) (N:=some 41) (v:=undef) (a':=?_) #[true,true,true,true,true,true,true,true,true,true,true,true,true,true,true,false,false,false,false] rfl rfl (any_of HT_.out (by kernel_rfl)) (fun _ _ _ h=>h) (Or.inr ⟨by rfl,rfl⟩) ?_ ?_
       rotate_left
       ·simp only [Act.put,List.setIfInBounds_toArray,List.set_cons_zero,List.set_cons_succ,i64_w,i32_w]
        rfl
       refine pure_ (i:=15) (N:=some 42) (v:=undef) (a':=?_) #[true,true,true,true,true,true,true,true,true,true,true,true,true,true,true,true,false,false,false] rfl rfl (any_of HT_.out (by kernel_rfl)) (fun _ _ _ h=>h) (Or.inr ⟨by rfl,rfl⟩) ?_ ?_
       rotate_left
       ·simp only [Act.put,List.setIfInBounds_toArray,List.set_cons_zero,List.set_cons_succ,i64_w,i32_w]
        rfl
       refine pure_ (i:=16) (N:=some 43) (v:=undef) (a':=?_) #[true,true,true,true,true,true,true,true,true,true,true,true,true,true,true,true,true,false,false] rfl rfl (any_of HT_.out (by kernel_rfl)) (fun _ _ _ h=>h) (Or.inr ⟨by rfl,rfl⟩) ?_ ?_
       rotate_left
       ·simp only [Act.put,List.setIfInBounds_toArray,List.set_cons_zero,List.set_cons_succ,i64_w,i32_w]
        rfl
       refine pure_ (i:=17) (N:=some 44) (v:=?_) (a':=?_) #[true,true,true,true,true,true,true,true,true,true,true,true,true,true,true,true,true,true,false] rfl rfl (any_of HT_.out (by kernel_rfl)) (fun _ _ _ h=>h) (Or.inl ⟨by rfl,?_⟩) ?_ ?_
       rotate_left
       ·intro w'
        go_simp
        with_reducible rfl
       rotate_left
       ·simp only [Act.put,List.setIfInBounds_toArray,List.set_cons_zero,List.set_cons_succ,i64_w,i32_w]
        rfl
       refine pure_ (i:=18) (N:=some 26) (v:=?_) (a':=?_) #[true,true,true,true,true,true,true,true,true,true,true,true,true,true,true,true,true,true,true] rfl rfl (any_of HT_.out (by kernel_rfl)) (fun _ _ _ h=>h) (Or.inl ⟨by rfl,?_⟩) ?_ ?_
       rotate_left
       ·intro w'
        go_simp
        with_reducible rfl
       rotate_left
       ·simp only [Act.put,List.setIfInBounds_toArray,List.set_cons_zero,List.set_cons_succ,i64_w,i32_w]
        rfl
       refine done_ (done_of HT_.out (by kernel_rfl)) ?_
       have hcz45_0 : w44.cell? ⟨gb146,0,none⟩=some (.int .i64 t147):=(zkC BK146.out 0).trans rfl
       have hcz45_1 : w44.cell? ⟨gb146,1,none⟩=some (.int .i64 t148):=(zkC BK146.out 1).trans rfl
       have hfz45_0:=zkF BK146.out 0
       have hfz45_1:=zkF BK146.out 1
       try go_wp2_with (first|((with_reducible refine gate_builtin (b:=.append) (xs:=#[.tmp 18,.tmp 20]) rfl ?_);at_builtin;refine Kd.R_append k103 (w0:=w) w.heap.size rfl (.tmp 18) (.tmp 20) 35 103 (.agg #[(.int .i64 0),(.int .i64 0)]) 16 rfl Try.underlying35 info103 rfl (by decide) (by omega) (.slice Ao42 x3_1.length co42) x3_1 (⟨t147,t148⟩:S103) [.int .i64 t147,.int .i64 t148] (fun k_=>k_ ≠ gb146) (fun _=>False) rfl rfl ?aP (fun _ hk=>hk.elim) ?aF ?aO ?aB ?aS ?aL ?_;(case aP=>exact k103_mkM _ _ _ (⟨t147,t148⟩:S103));(case aB=>exact (by repeat (first|(with_reducible first|exact HB.out|apply zbA|apply zbN|apply zb1|refine zbS ?_ GE146.out)|exact HB.out)));(case aF=>exact (fun k_ hk=>Kd.freshB (g:=gb146) (o:=.cells #[.int .i64 t147,.int .i64 t148] 103 (0,0)) (by (with_reducible repeat (first|refine zkN ?_ _|refine zkD ?_|refine zkA ?_ _));exact BK146.out) k_ hk));(case aO=>exact (by (with_reducible repeat (first|apply Kd.R_alloc|apply Kd.R_drewN|apply Kd.R_drew));exact HO_3.out));(case aS=>exact (below_size (by repeat (first|(with_reducible first|exact HB.out|apply zbA|apply zbN|apply zb1|refine zbS ?_ GE146.out)|exact HB.out))));(case aL=>have:=LMc37.out;omega);intro v157 w46 ho hb hg hat;rw [← Ny156.out] at ho;have n0_:=Z0.mk (blk_grown (g:=gb146) (o:=.cells #[.int .i64 t147,.int .i64 t148] 103 (0,0)) (by (with_reducible repeat (first|refine zkN ?_ _|refine zkD ?_|refine zkA ?_ _));exact BK146.out) hg (Kd.R_away HO_3.out (fun _ hk=>hk)));have n1_:=Z0.mk (hb);have n2_:=Z0.mk (ho);clear BK146;clear HB;clear HO_3;have BK146:=n0_;have HB:=n1_;have HO158:=n2_;clear n0_ n1_ n2_;clear ho hb hg hat))
       go_roundg k1
       case measure=>have:=HK1.out;omega
       case rel=>exact ⟨(y156),(wrap64 (x9_1 + 1)),(by first|rfl|(simp;done)|(simp [*];done)),H',⟨by have:=HK1.out;omega⟩,⟨by (with_reducible repeat (first|apply Kd.R_alloc|apply Kd.R_drewN|apply Kd.R_drew));exact Kd.R_mono HO158.out (fun _ hk=>trivial)⟩,⟨by repeat (first|(with_reducible first|exact HB.out|apply zbA|apply zbN|apply zb1|refine zbS ?_ GE146.out)|exact HB.out)⟩⟩
      rw [if_neg c37] at H
      exact absurd H (by simp)
     rw [if_neg c4] at H
     exact absurd H (by simp)
    rw [if_neg c3] at H
    exact absurd H (by simp)
   rw [if_neg c2] at H
   have c2b0 : decide (x9_1 < (l0.length:Int))=false:=decide_eq_false c2
   clear c2
   obtain rfl:=Option.some.inj H
   go_wp2
   go_ret
   exact ⟨_,by first|rfl|(simp [errW_none,errW_some] <;> rfl)|(simp [*,errW_none,errW_some] <;> rfl),by (with_reducible repeat (first|apply Kd.R_alloc|apply Kd.R_drewN|apply Kd.R_drew));exact HO_3.out,by repeat (first|(with_reducible first|exact HB.out|apply zbA|apply zbN|apply zb1)|exact HB.out)⟩
end Go.Proofs.Ytegefemkmdlmaaa.P
end
section
namespace Go.Proofs.Ytegefemkmdlmaaa.P
open Go.RowKit
def rowB (has:Nat→Bool):Array Value:=((List.range 128).map fun i=>Value.bool (has i)).toArray
theorem rowB_size (has:Nat→Bool):(rowB has).size=128:=by simp [rowB]
theorem rowB_get (has:Nat→Bool) (i:Nat) (h : i < 128):(rowB has)[i]?=some (.bool (has i)):=by
 simp [rowB,List.getElem?_range h]
theorem rowB_ext {f g:Nat→Bool} (h:∀ i,i < 128→f i=g i) : rowB f=rowB g:=by
 unfold rowB
 congr 1
 apply List.map_congr_left
 intro i hi
 rw [h i (List.mem_range.1 hi)]
theorem rowB_set (has:Nat→Bool) (i:Nat) (v:Bool):(rowB has).setIfInBounds i (.bool v)=rowB fun t=>if t=i then v else has t:=by
 apply Array.ext_getElem?
 intro j
 by_cases hj : j < 128
 ·rw [rowB_get _ j hj,Array.getElem?_setIfInBounds,rowB_size]
  by_cases h : i=j
  ·subst h
   simp [hj]
  rw [if_neg h,rowB_get _ j hj,if_neg (fun e=>h e.symm)]
 rw [Array.getElem?_eq_none (by rw [Array.size_setIfInBounds,rowB_size];omega),Array.getElem?_eq_none (by rw [rowB_size];omega)]
theorem rowB_one (has:Nat→Bool):(rowB has).all (·.oneCell')=true:=by
 simp [rowB,Value.oneCell']
theorem zero106:(∀ w,(zeroValue 106).run Try.prog w=.ok (.agg (rowB fun _=>false)) w)∧(Try.prog.info? 106).map (·.size)=some 128 :=
 by
  have h:(Try.prog.info? 106).map (fun i=>(i.zero,i.size))=some (some (.agg (rowB fun _=>false)),128):=by kernel_rfl
  cases hq:Try.prog.info? 106 with
  | none=>simp [hq] at h
  | some i =>
   simp [hq] at h
   exact ⟨fun w=>by simp [zeroValue,typeInfo,hq,h.1],by simp [h.2]⟩
end Go.Proofs.Ytegefemkmdlmaaa.P
end
section
namespace Go.Proofs.Ytegefemkmdlmaaa.P
open Go.RowKit
theorem S103_ext {a b:S103} (h0 : a.f0=b.f0) (h1 : a.f1=b.f1) : a=b:=by
 cases a;cases b;simp at h0 h1;simp [h0,h1]
instance : DecidableEq S103:=fun a b =>
 if h : a.f0=b.f0∧a.f1=b.f1 then isTrue (S103_ext h.1 h.2) else isFalse (fun e=>h ⟨by rw [e],by rw [e]⟩)
def clipS (r:S103):S103 :=
 if r.f1 < 1∨r.f0 ≥ 128 then ⟨0,0⟩ else
  let e:Int:=if r.f0 < 0∨r.f1 < 128 - r.f0 then (if r.f0 + r.f1 < 128 then r.f0 + r.f1 else 128) else 128
  let f:Int:=if r.f0 < 0 then 0 else r.f0
  if e≤f then ⟨0,0⟩ else ⟨f,e - f⟩
def inL (l:List S103) (t:Int):Bool:=l.any fun r=>decide ((clipS r).f0≤t∧t < (clipS r).f0 + (clipS r).f1)
def bump (l:List S103):List S103:=l.set (l.length - 1) ⟨(l.getD (l.length - 1) z103).f0,(l.getD (l.length - 1) z103).f1 + 1⟩
def runsTo (has:Nat→Bool):Nat→List S103
 | 0=>[]
 | n + 1=>if has n=false then runsTo has n else if 0 < n∧has (n - 1)=true then bump (runsTo has n) else runsTo has n++[⟨n,1⟩]
def runsOf (has:Nat→Bool):List S103:=runsTo has 128
def okR (r:S103):Bool:=decide (-9223372036854775808≤r.f0∧r.f0≤9223372036854775807∧-9223372036854775808≤r.f1∧r.f1≤9223372036854775807)
def okL (l:List S103):Bool:=l.all okR && decide (l.length≤1099511627776)
theorem okL_all {l:List S103} (h : okL l=true):∀ r ∈ l,okR r=true:=by
 unfold okL at h
 rw [Bool.and_eq_true,List.all_eq_true] at h
 exact h.1
theorem okL_len {l:List S103} (h : okL l=true) : l.length≤1099511627776:=by
 unfold okL at h
 rw [Bool.and_eq_true,decide_eq_true_iff] at h
 exact h.2
theorem okL_mk {l:List S103} (h:∀ r ∈ l,okR r=true) (hl : l.length≤1099511627776) : okL l=true:=by
 unfold okL
 rw [Bool.and_eq_true,decide_eq_true_iff,List.all_eq_true]
 exact ⟨h,hl⟩
def extent_Normal.f (l0:List S103):Option (List S103):=if okL l0=true then some (runsOf fun t=>inL l0 t) else none
def joinTo:List S103→List S103→List S103
 | out,[]=>out
 | out,r::l =>
  if (clipS r).f1=0 then joinTo out l
  else if out ≠ []∧(out.getD (out.length - 1) z103).f0 + (out.getD (out.length - 1) z103).f1=(clipS r).f0 then joinTo (out.set (out.length - 1) ⟨(out.getD (out.length - 1) z103).f0,(out.getD (out.length - 1) z103).f1 + (clipS r).f1⟩) l
  else joinTo (out++[clipS r]) l
def joinL (l:List S103):List S103:=joinTo [] l
def sizeL (l:List S103):Int:=(l.map fun r=>(clipS r).f1).sum
def disjL (l:List S103):Bool:=decide (sizeL l=sizeL (runsOf fun t=>inL l t))
def validL (id unit:Int) (name note:ByteArray) (ext:List S103) (tracks:Int):Bool :=
 decide (4≤tracks∧tracks≤128) && (decide (1≤id∧id≤1099511627776) && (decide (0≤unit∧unit≤1099511627776) && (decide (name.size≤31∧note.size≤400) && (decide (1≤ext.length∧ext.length≤16) && (decide (joinL ext=ext) && (disjL ext && ext.all fun r=>decide ((tracks + 3) / 4≤r.f0∧r.f0 + r.f1≤tracks)))))))
def label_Valid.f (a0_0 a0_1:Int) (a0_2 a0_3:ByteArray) (l0_4:List S103) (a1:Int):Option Bool:=if okL l0_4=true then some (validL a0_0 a0_1 a0_2 a0_3 l0_4 a1) else none
end Go.Proofs.Ytegefemkmdlmaaa.P
end
section
namespace Go.Proofs.Ytegefemkmdlmaaa.P
open Go.RowKit Go.Proofs.YtegefemkmdlmaaaW.PrintWords Go.Proofs.YtegefemkmdlmaaaW.PrintLast Go.Proofs.YtegefemkmdlmaaaW.PrintMore
theorem okR_bounds {r:S103} (h : okR r=true) : -9223372036854775808≤r.f0∧r.f0≤9223372036854775807∧-9223372036854775808≤r.f1∧r.f1≤9223372036854775807:=of_decide_eq_true h
theorem clip_j1 (k:Nat) (e:Int) (b:Bool) (x y:Int) (hx : x < 128) (hx0 : -9223372036854775808≤x) (hy : 1≤y) (hy1 : y≤9223372036854775807) (he : e=128) (hb : b=true→x < 0∨y < 128 - x) (hb' : b=false→¬ (x < 0∨y < 128 - x)) :
  extent_clip.j1 (k + 1) e b x y=some ((clipS ⟨x,y⟩).f0,(clipS ⟨x,y⟩).f1):=by
 subst he
 simp only [extent_clip.j1,clipS]
 rw [if_neg (show ¬ (y < 1∨x ≥ 128) by omega)]
 cases b with
 | true =>
  have hc:=hb rfl
  have hw : wrap64 (x + y)=x + y:=by unfold wrap64;omega
  rw [if_pos rfl,if_pos hc,hw]
  unfold mn mx
  by_cases h1 : x + y < 128
  ·have e1:(if x + y < (128:Int) then x + y else 128)=x + y:=if_pos h1
   rw [e1]
   by_cases h2 : x < 0
   ·have e2:(if x < (0:Int) then (0:Int) else x)=0:=if_pos h2
    have e3:(if (0:Int) < x then x else 0)=0:=if_neg (by omega)
    rw [e2,e3]
    by_cases h3 : x + y≤0
    ·rw [if_pos h3,if_pos h3]
    rw [if_neg h3,if_neg h3]
    have hw2 : wrap64 (x + y - 0)=x + y - 0:=by unfold wrap64;omega
    rw [hw2]
   have e2:(if x < (0:Int) then (0:Int) else x)=x:=if_neg h2
   have e3:(if (0:Int) < x then x else 0)=x:=by split <;> omega
   rw [e2,e3]
   by_cases h3 : x + y≤x
   ·rw [if_pos h3,if_pos h3]
   rw [if_neg h3,if_neg h3]
   have hw2 : wrap64 (x + y - x)=x + y - x:=by unfold wrap64;omega
   rw [hw2]
  have e1:(if x + y < (128:Int) then x + y else 128)=128:=if_neg h1
  rw [e1]
  by_cases h2 : x < 0
  ·have e2:(if x < (0:Int) then (0:Int) else x)=0:=if_pos h2
   have e3:(if (0:Int) < x then x else 0)=0:=if_neg (by omega)
   rw [e2,e3,if_neg (by omega),if_neg (by omega)]
   have hw2 : wrap64 (128 - 0)=128 - 0:=by unfold wrap64;omega
   rw [hw2]
  exfalso;omega
 | false =>
  have hc:=hb' rfl
  rw [if_neg (by simp),if_neg hc]
  unfold mx
  have e3:(if (0:Int) < x then x else 0)=x:=by split <;> omega
  have e2:(if x < (0:Int) then (0:Int) else x)=x:=if_neg (by omega)
  rw [e2,e3,if_neg (by omega),if_neg (by omega)]
  have hw2 : wrap64 (128 - x)=128 - x:=by unfold wrap64;omega
  rw [hw2]
theorem clip_eq (k:Nat) (r:S103) (h : okR r=true) : extent_clip.f (k + 2) r.f0 r.f1=some ((clipS r).f0,(clipS r).f1):=by
 obtain ⟨h0,h1,h2,h3⟩:=okR_bounds h
 obtain ⟨x,y⟩:=r
 simp only [] at h0 h1 h2 h3 ⊢
 unfold extent_clip.f
 by_cases c1 : y < 1
 ·rw [if_pos c1]
  simp only [extent_clip.j0]
  simp [clipS,c1]
 rw [if_neg c1]
 by_cases c2 : x ≥ 128
 ·simp only [extent_clip.j0]
  rw [if_pos (decide_eq_true c2)]
  simp [clipS,c2]
 simp only [extent_clip.j0]
 rw [if_neg (by simpa using c2)]
 by_cases c3 : x < 0
 ·rw [if_pos c3]
  exact clip_j1 k 128 true x y (by omega) h0 (by omega) h3 rfl (fun _=>.inl c3) (by simp)
 rw [if_neg c3]
 have hw : wrap64 (128 - x)=128 - x:=by unfold wrap64;omega
 rw [hw]
 exact clip_j1 k 128 _ x y (by omega) h0 (by omega) h3 rfl (fun hb=>.inr (by simpa using hb)) (fun hb=>by simp at hb;omega)
theorem clip_range (r:S103) : 0≤(clipS r).f0∧(clipS r).f0≤128∧0≤(clipS r).f1∧(clipS r).f0 + (clipS r).f1≤128:=by
 unfold clipS
 by_cases c : r.f1 < 1∨r.f0 ≥ 128
 ·rw [if_pos c];decide
 rw [if_neg c]
 simp only []
 generalize he:(if r.f0 < 0∨r.f1 < 128 - r.f0 then (if r.f0 + r.f1 < 128 then r.f0 + r.f1 else 128) else 128)=e
 generalize hf:(if r.f0 < 0 then (0:Int) else r.f0)=f
 have h1 : e≤128:=by
  rw [← he]
  split
  ·split <;> omega
  omega
 have h2 : 0≤f∧f≤127:=by
  rw [← hf]
  split <;> omega
 by_cases h : e≤f
 ·rw [if_pos h];decide
 rw [if_neg h]
 simp only []
 omega
end Go.Proofs.Ytegefemkmdlmaaa.P
end
section
namespace Go.Proofs.Ytegefemkmdlmaaa.P
open Go.RowKit Go.Proofs.YtegefemkmdlmaaaW.PrintWords Go.Proofs.YtegefemkmdlmaaaW.PrintLast Go.Proofs.YtegefemkmdlmaaaW.PrintMore
set_option linter.unusedVariables false
set_option linter.unusedSimpArgs false
theorem okL_at {l:List S103} (h : okL l=true) {i:Nat} (hi : i < l.length) : okR (rd_T103 l (i:Int))=true:=by
 have:=okL_all h (l[i]) (List.getElem_mem hi)
 unfold rd_T103
 rw [Int.toNat_natCast,List.getD_eq_getElem?_getD,List.getElem?_eq_getElem hi]
 exact this
theorem row_start (l:List S103) (i:Nat) (f:Int):(rowB fun t=>inL (l.take i) t || decide (f≤(t:Int)∧(t:Int) < f + (0:Nat)))=rowB fun t=>inL (l.take i) t:=by
 apply rowB_ext
 intro t ht
 rw [show decide (f≤(t:Int)∧(t:Int) < f + (0:Nat))=false from decide_eq_false (by omega),Bool.or_false]
theorem row_step (l:List S103) (i:Nat) (f:Int) (j:Nat) (h0 : 0≤f + (j:Int)) :
  (rowB fun t=>inL (l.take i) t || decide (f≤(t:Int)∧(t:Int) < f + j)).setIfInBounds (f + (j:Int)).toNat (.bool true)=rowB fun t=>inL (l.take i) t || decide (f≤(t:Int)∧(t:Int) < f + (j + 1:Nat)):=by
 rw [rowB_set]
 apply rowB_ext
 intro t ht
 by_cases e : t=(f + (j:Int)).toNat
 ·rw [if_pos e,show decide (f≤(t:Int)∧(t:Int) < f + (j + 1:Nat))=true from decide_eq_true (by omega),Bool.or_true]
 rw [if_neg e]
 congr 1
 rw [Bool.eq_iff_iff,decide_eq_true_iff,decide_eq_true_iff]
 omega
def OfInv (w:World) (l:List S103) (k:Value) (wr:World):Prop :=
 ∃ i:Nat,i≤l.length∧k=.int .i64 i∧wr.heap[w.heap.size]?=some (.cells (rowB fun _=>false) 106 (0,0)) ∧
  wr.heap[w.heap.size + 1]?=some (.cells (rowB fun t=>inL (l.take i) t) 106 (0,0))∧Below w.heap.size w wr
def InInv (w:World) (l:List S103) (i:Nat) (f c:Int) (gr:Nat) (k:Value) (wr:World):Prop :=
 ∃ j:Nat,(j:Int)≤c∧k=.int .i64 j∧wr.heap[w.heap.size]?=some (.cells (rowB fun _=>false) 106 (0,0)) ∧
  wr.heap[w.heap.size + 1]?=some (.cells (rowB fun t=>inL (l.take i) t || decide (f≤(t:Int)∧(t:Int) < f + j)) 106 (0,0)) ∧
  wr.heap[gr]?=some (.cells #[.int .i64 f,.int .i64 c] 103 (0,0))∧Below w.heap.size w wr
theorem inL_take (l:List S103) (i:Nat) (h : i < l.length) (t:Int) :
  inL (l.take (i + 1)) t=(inL (l.take i) t || decide ((clipS (rd_T103 l (i:Int))).f0≤t∧t < (clipS (rd_T103 l (i:Int))).f0 + (clipS (rd_T103 l (i:Int))).f1)):=by
 unfold inL
 rw [List.take_succ_eq_append_getElem h,List.any_append]
 unfold rd_T103
 simp [List.getD_eq_getElem?_getD,List.getElem?_eq_getElem h]
set_option maxRecDepth 100000 in
set_option maxHeartbeats 8000000 in
theorem of_any (A0:Option Addr) (c0:Nat) (l0:List (S103)) (w:World) (hr0:Kd.C k103 w A0 l0.length l0) (hok : okL l0=true) :
  Calls Try.prog 98 #[.slice A0 l0.length c0] w fun e w'=>e=.returned (.agg (rowB fun t=>inL l0 t))∧Below w.heap.size w w':=by
 have hz:=zero106.1
 have HI:=Z0.mk zero106.2
 have HR:=Z0.mk hr0
 have HOK:=Z0.mk hok
 have hlen:=okL_len hok
 clear hr0 hok
 go_enter Try.func98,Try.ntmps98
 go_wp2
 go_loopw [9] (fun k wr=>OfInv w l0 k wr) (fun k _=>(l0.length:Int).toNat - (intOf k).toNat)
 case atStart =>
  refine ⟨0,Nat.zero_le _,rfl,?_,?_,?_⟩
  ·exact heap_alloc2_old _ _ _
  ·simpa [inL] using heap_alloc2_new _ _ _
  exact ((Below.refl _ _).alloc (Nat.le_refl _) _).alloc (by simp) _
 case round =>
  obtain ⟨i,hi,rfl,hb0,hb1,hbel⟩:=hrel
  have HB0:=Z0.mk hb0
  have HB1:=Z0.mk hb1
  have HB:=Z0.mk hbel
  clear hb0 hb1 hbel
  by_cases hlt : i < l0.length
  ·obtain ⟨ad,e1,hx0,hx1⟩:=at_T103 HR.out (i:Int) (by omega) (by omega)
   cases e1
   replace hx0:=(HB.out.cell (World.block_lt_of_cell? w _ hx0)).trans hx0
   replace hx1:=(HB.out.cell (World.block_lt_of_cell? w _ hx1)).trans hx1
   simp only [Int.toNat_natCast] at hx0 hx1
   obtain ⟨r,hr⟩:∃ r,r=rd_T103 l0 (i:Int):=⟨_,rfl⟩
   rw [← hr] at hx0 hx1
   have HRR:=Lib.hid hr
   clear hr
   have hok1 : okR r=true:=by
    have hm:=okL_at HOK.out hlt
    rw [HRR.out]
    exact hm
   have hclip:=clip_eq 0 r hok1
   have hcr:=clip_range r
   obtain ⟨wo,rfl⟩:∃ wo:World,wo=wr:=⟨_,rfl⟩
   have HCL:=Z0.mk hclip
   clear hclip hok1
   go_wp2_with (first|(go_at_call 95;refine (extent_clip.calls 2 r.f0 r.f1 _ _ _ HCL.out).mono ?_;rintro e w1 ⟨rfl,hb⟩;have hG : w1.heap[wo.heap.size]?=some (.cells #[.int .i64 r.f0,.int .i64 r.f1] 103 (0,0)):=(hb.block wo.heap.size (by simp)).trans (heap_alloc_new wo _);have gc0 : w1.cell? ⟨wo.heap.size,0,none⟩=some (.int .i64 r.f0):=(zkC hG 0).trans rfl;have gc1 : w1.cell? ⟨wo.heap.size,1,none⟩=some (.int .i64 r.f1):=(zkC hG 1).trans rfl;have gf0:=zkF hG 0;have gf1:=zkF hG 1;have HG:=Z0.mk hG;have HB2:=Z0.mk hb;clear hb hG))
   have hlt1 : w.heap.size + 1 < wo.heap.size:=blk_lt HB1.out
   have hb1 : w.heap.size≤wo.heap.size:=by omega
   have X1:=Z0.mk (zbS (g:=wo.heap.size) (j:=1) (v:=.int .i64 (clipS r).f1) (zbS (g:=wo.heap.size) (j:=0) (v:=.int .i64 (clipS r).f0) (below_step (zbA HB.out (.cells #[.int .i64 r.f0,.int .i64 r.f1] 103)) HB2.out) hb1) hb1)
   have X2:=Z0.mk (blk_put (cs':=#[.int .i64 (clipS r).f0,.int .i64 (clipS r).f1]) (blk_put (cs':=#[.int .i64 (clipS r).f0,.int .i64 r.f1]) HG.out 0 (.int .i64 (clipS r).f0) rfl) 1 (.int .i64 (clipS r).f1) rfl)
   have X3:=Z0.mk (blk_far (p:=⟨wo.heap.size,1,none⟩) (blk_far (p:=⟨wo.heap.size,0,none⟩) (blk_below (zkA HB0.out (.cells #[.int .i64 r.f0,.int .i64 r.f1] 103)) HB2.out) (show w.heap.size ≠ wo.heap.size by omega) (.int .i64 (clipS r).f0)) (show w.heap.size ≠ wo.heap.size by omega) (.int .i64 (clipS r).f1))
   have X4:=Z0.mk (blk_far (p:=⟨wo.heap.size,1,none⟩) (blk_far (p:=⟨wo.heap.size,0,none⟩) (blk_below (zkA HB1.out (.cells #[.int .i64 r.f0,.int .i64 r.f1] 103)) HB2.out) (show w.heap.size + 1 ≠ wo.heap.size by omega) (.int .i64 (clipS r).f0)) (show w.heap.size + 1 ≠ wo.heap.size by omega) (.int .i64 (clipS r).f1))
   clear HG HB2 HB HB0 HB1 gc0 gc1 gf0 gf1 hx0 hx1 HCL
   generalize (w1.setCell ⟨wo.heap.size,0,none⟩ (.int .i64 (clipS r).f0)).setCell ⟨wo.heap.size,1,none⟩ (.int .i64 (clipS r).f1)=w2 at X1 X2 X3 X4 ⊢
   obtain ⟨f,hf⟩:∃ f,f=(clipS r).f0:=⟨_,rfl⟩
   obtain ⟨c,hc⟩:∃ c,c=(clipS r).f1:=⟨_,rfl⟩
   rw [← hf,← hc] at X2 hcr
   rw [← hc]
   obtain ⟨gr,hgr⟩:∃ gr,gr=wo.heap.size:=⟨_,rfl⟩
   rw [← hgr] at X2 hlt1 hb1 ⊢
   have HF:=Lib.hid hf
   have HC:=Lib.hid hc
   clear hf hc hgr
   clear w1
   go_loopw [6,17] (fun _ k wr=>InInv w l0 i f c gr k wr) (fun _ k _=>c.toNat - (intOf k).toNat)
   case atStart=>exact ⟨0,by omega,rfl,X3.out,by rw [row_start];exact X4.out,X2.out,X1.out⟩
   case round =>
    obtain ⟨j,hj,rfl,hb0,hb1',hg,hbel⟩:=hrel
    have HB:=Z0.mk hbel
    have HB0:=Z0.mk hb0
    have HB1:=Z0.mk hb1'
    have HG:=Z0.mk hg
    have gc0:=(zkC hg 0).trans rfl
    have gc1:=(zkC hg 1).trans rfl
    clear hbel hb0 hb1' hg X1 X2 X3 X4
    by_cases hjc:(j:Int) < c
    ·have hfj:(f + (j:Int)).toNat < 128:=by omega
     have hz0 : 0≤f + (j:Int):=by omega
     have hz1 : f + (j:Int) < 128:=by omega
     have bc:=(zkC HB1.out (f + (j:Int)).toNat).trans (rowB_get _ _ hfj)
     have bf:=zkF HB1.out (f + (j:Int)).toNat
     have BC:=Z0.mk bc
     clear bc
     obtain ⟨v,hv⟩:∃ v,Value.bool v=Value.bool (inL (l0.take i) ((f + (j:Int)).toNat:Nat) || decide (f≤((f + (j:Int)).toNat:Nat)∧(((f + (j:Int)).toNat:Nat):Int) < f + j)):=⟨_,rfl⟩
     have bc:=BC.out
     rw [← hv] at bc
     clear hv BC
     go_wp2
     go_roundw
     case rel=>exact ⟨j + 1,by omega,by go_num,blk_far HB0.out (show w.heap.size ≠ w.heap.size + 1 by omega) _,(blk_set HB1.out (f + (j:Int)).toNat (.bool true)).trans (by rw [row_step l0 i f j hz0]),blk_far HG.out (show gr ≠ w.heap.size + 1 by omega) _,zbS HB.out (by omega)⟩
     case measure=>simp [intOf];omega
    obtain rfl:(j:Int)=c:=by omega
    go_wp2
    go_roundw
    case rel =>
     refine ⟨i + 1,by omega,by go_num,HB0.out,?_,HB.out⟩
     rw [HB1.out]
     congr 2
     apply rowB_ext
     intro t ht
     rw [inL_take l0 i hlt,← HRR.out,← HF.out,← HC.out]
    case measure=>simp [intOf];omega
  obtain rfl : i=l0.length:=by omega
  have hzz:=rowB_size fun _=>false
  rw [List.take_length] at HB1
  clear hz
  go_wp2_with (first
   | (refine wpList_load_row rfl 106 (.tmp 3) rfl (w.heap.size + 1) rfl 106 (rowB fun t=>inL l0 t) (0,0) _ HB1.out Try.underlying106 rfl (by rw [rowB_size];exact HI.out) ?_)
   | (refine wpList_store_row rfl 106 (.tmp 2) (.tmp 27) rfl w.heap.size (rowB fun t=>inL l0 t) rfl rfl 106 _ HB0.out (by rw [rowB_size];exact HI.out) (by rw [rowB_size,rowB_size]) (rowB_one _) ?_))
  have hres:=setRow_heap wr w.heap.size _ (rowB fun t=>inL l0 t) 106 (0,0) HB0.out
  refine bodyPost_ret (v:=.agg (rowB fun t=>inL l0 t)) ?_ rfl ?_
  ·exact results_cell_row rfl _ _ w.heap.size 106 _ (0,0) _ rfl hres Try.underlying106 rfl (by rw [rowB_size];exact HI.out)
  exact ⟨rfl,below_setRow HB.out (Nat.le_refl _) _⟩
end Go.Proofs.Ytegefemkmdlmaaa.P
end
section
namespace Go.Proofs.Ytegefemkmdlmaaa.P
theorem bump_snoc (l:List S103) (r:S103) : bump (l++[r])=l++[⟨r.f0,r.f1 + 1⟩]:=by
 unfold bump
 simp
theorem runsTo_succ (has:Nat→Bool) (n:Nat) : runsTo has (n + 1)=if has n=false then runsTo has n else if 0 < n∧has (n - 1)=true then bump (runsTo has n) else runsTo has n++[⟨n,1⟩]:=rfl
theorem runsTo_last (has:Nat→Bool) (n:Nat) : 0 < n→has (n - 1)=true→∃ (l:List S103) (r:S103),runsTo has n=l++[r]∧r.f0 + r.f1=(n:Int):=by
 induction n with
 | zero=>intro h;omega
 | succ n ih =>
  intro _ h
  rw [Nat.add_sub_cancel] at h
  rw [runsTo_succ,if_neg (by rw [h];simp)]
  by_cases c : 0 < n∧has (n - 1)=true
  ·rw [if_pos c]
   obtain ⟨l,r,e,hr⟩:=ih c.1 c.2
   rw [e,bump_snoc]
   exact ⟨l,_,rfl,by simp only [];omega⟩
  rw [if_neg c]
  exact ⟨_,_,rfl,by simp only [];omega⟩
theorem runsTo_range (has:Nat→Bool) (n:Nat):(∀ r ∈ runsTo has n,0≤r.f0∧1≤r.f1∧r.f0 + r.f1≤n)∧(runsTo has n).length≤n:=by
 induction n with
 | zero=>simp [runsTo]
 | succ n ih =>
  obtain ⟨ih,il⟩:=ih
  have h1:∀ r ∈ runsTo has n,0≤r.f0∧1≤r.f1∧r.f0 + r.f1≤(n + 1:Nat):=fun r hr=>by
   have:=ih r hr
   omega
  rw [runsTo_succ]
  split
  ·exact ⟨h1,by omega⟩
  split
  ·rename_i c
   obtain ⟨l,r,e,hr⟩:=runsTo_last has n c.1 c.2
   rw [e] at ih h1 il ⊢
   rw [bump_snoc]
   refine ⟨fun q hq=>?_,by simp at il ⊢;omega⟩
   rcases List.mem_append.1 hq with h|h
   ·exact h1 q (List.mem_append_left _ h)
   have:=ih r (List.mem_append_right _ (List.mem_singleton.2 rfl))
   rw [List.mem_singleton.1 h]
   simp only []
   omega
  refine ⟨fun q hq=>?_,by simp;omega⟩
  rcases List.mem_append.1 hq with h|h
  ·exact h1 q h
  rw [List.mem_singleton.1 h]
  simp only []
  omega
theorem clipS_id (r:S103) (h0 : 0≤r.f0) (h1 : 1≤r.f1) (h2 : r.f0 + r.f1≤128) : clipS r=r:=by
 unfold clipS
 rw [if_neg (by omega)]
 simp only []
 rw [if_neg (show ¬ r.f0 < 0 by omega)]
 by_cases c : r.f0 < 0∨r.f1 < 128 - r.f0
 ·rw [if_pos c]
  by_cases c2 : r.f0 + r.f1 < 128
  ·rw [if_pos c2,if_neg (by omega),show r.f0 + r.f1 - r.f0=r.f1 by omega]
  rw [if_neg c2,if_neg (by omega),show (128:Int) - r.f0=r.f1 by omega]
 rw [if_neg c,if_neg (by omega),show (128:Int) - r.f0=r.f1 by omega]
theorem okL_runsTo (has:Nat→Bool) (n:Nat) (hn : n≤128) : okL (runsTo has n)=true:=by
 have hl:=(runsTo_range has n).2
 refine okL_mk (fun r hr=>?_) (by omega)
 have:=(runsTo_range has n).1 r hr
 exact decide_eq_true (by omega)
theorem okL_runsOf (has:Nat→Bool) : okL (runsOf has)=true:=okL_runsTo has 128 (Nat.le_refl _)
end Go.Proofs.Ytegefemkmdlmaaa.P
end
section
namespace Go.Proofs.Ytegefemkmdlmaaa.P
open Go.RowKit Go.Proofs.YtegefemkmdlmaaaW.PrintWords Go.Proofs.YtegefemkmdlmaaaW.PrintLast Go.Proofs.YtegefemkmdlmaaaW.PrintMore
set_option linter.unusedVariables false
set_option linter.unusedSimpArgs false
def RunsInv (w:World) (has:Nat→Bool) (v k:Value) (wr:World):Prop :=
 ∃ i:Nat,i≤128∧k=.int .i64 i∧Kd.R k103 103 wr w.heap.size (fun _=>True) v (runsTo has i)∧Below w.heap.size w wr
set_option maxRecDepth 100000 in
set_option maxHeartbeats 8000000 in
theorem runs_any (has:Nat→Bool) (g:Nat) (w:World) (hg : w.heap[g]?=some (.cells (rowB has) 106 (0,0))) :
  Calls Try.prog 99 #[.pointer (some ⟨g,0,none⟩)] w fun e w'=>∃ v0_:Value,e=.returned (v0_)∧Kd.R k103 103 w' w.heap.size (fun _=>True) v0_ (runsOf has)∧Below w.heap.size w w':=by
 have hu103:=Try.underlying103
 have HG0:=Z0.mk hg
 clear hg
 go_enter Try.func99,Try.ntmps99
 go_wp2
 go_loopw [3,7] (fun v k wr=>RunsInv w has v k wr) (fun _ k _=>128 - (intOf k).toNat)
 case atStart=>exact ⟨0,by omega,rfl,Kd.R_nil _ _ _ _ _,Below.refl _ _⟩
 case round =>
  obtain ⟨i,hi,rfl,ho,hbel⟩:=hrel
  have HB:=Z0.mk hbel
  have HO_3:=Z0.mk ho
  clear hbel ho
  by_cases hlt : i < 128
  ·have HGW:=Z0.mk (blk_below HG0.out HB.out)
   have hc0:=(zkC HGW.out i).trans (rowB_get has i hlt)
   have hq:=runsTo_succ has i
   have HQ:=Lib.hid hq
   clear hq
   cases hh : has i with
   | false =>
    rw [hh] at hc0
    have HH:=Lib.hid hh
    clear hh
    go_wp2
    repeat (go_quiet (fail);try go_wp2)
    go_roundw
    case rel =>
     refine ⟨i + 1,by omega,by go_num,?_,zbN HB.out _⟩
     rw [HQ.out,if_pos HH.out]
     exact Kd.R_drewN HO_3.out _
    case measure=>simp [intOf];omega
   | true =>
    rw [hh] at hc0
    have hne : ¬ has i=false:=by rw [hh];simp
    have HN:=Lib.hid hne
    clear hne hh
    have hrg:=(runsTo_range has i).2
    by_cases hp : 0 < i
    ·have hi1:(i:Int) - 1=((i - 1:Nat):Int):=by omega
     have hcp:=(zkC HGW.out (i - 1)).trans (rowB_get has (i - 1) (by omega))
     cases hh2 : has (i - 1) with
     | false =>
      rw [hh2] at hcp
      have HH2:=Lib.hid hh2
      clear hh2
      obtain ⟨y308,hy308⟩:∃ y_:List (S103),y_=(runsTo has i++[(⟨i,1⟩:S103)]):=⟨_,rfl⟩
      have Ny308:=Z0.mk hy308
      clear hy308
      go_wp2_with fail
      go_quiet (fail)
      go_wp2_with (first|((with_reducible refine gate_builtin (b:=.append) (xs:=#[.tmp 13,.tmp 16]) rfl ?_);at_builtin;refine Kd.R_append k103 (w0:=w) w.heap.size rfl (.tmp 13) (.tmp 16) 35 103 (.agg #[(.int .i64 0),(.int .i64 0)]) 16 rfl Try.underlying35 info103 rfl (by decide) (by omega) u3 (runsTo has i) (⟨i,1⟩:S103) [.int .i64 i,.int .i64 1] (fun _=>True) (fun _=>False) rfl rfl ?aP (fun _ hk=>hk.elim) ?aF ?aO ?aB ?aS ?aL ?_;(case aP=>exact k103_mkM _ _ _ (⟨i,1⟩:S103));(case aB=>exact (by repeat (first|(with_reducible first|exact HB.out|apply zbA|apply zbN|apply zb1)|exact HB.out)));(case aF=>exact (fun _ _=>trivial));(case aO=>exact (by (with_reducible repeat (first|apply Kd.R_alloc|apply Kd.R_drewN|apply Kd.R_drew));exact HO_3.out));(case aS=>exact (below_size (by repeat (first|(with_reducible first|exact HB.out|apply zbA|apply zbN|apply zb1)|exact HB.out))));(case aL=>omega);intro v309 w22 ho hb hg hat;rw [← Ny308.out] at ho;have n0_:=Z0.mk (hb);have n1_:=Z0.mk (ho);clear HB;clear HO_3;have HB:=n0_;have HO310:=n1_;clear n0_ n1_;clear ho hb hg hat))
      go_roundw
      case rel =>
       refine ⟨i + 1,by omega,by go_num,?_,HB.out⟩
       rw [HQ.out,if_neg HN.out,if_neg (fun h=>by rw [HH2.out] at h;simp at h),← Ny308.out]
       exact HO310.out
      case measure=>simp [intOf];omega
     | true =>
      rw [hh2] at hcp
      obtain ⟨L,R,hL,hR⟩:=runsTo_last has i hp hh2
      have HH2:=Lib.hid hh2
      clear hh2
      have hlen : 0 < (runsTo has i).length:=by rw [hL];simp
      obtain ⟨x3,hx3⟩:∃ x,x=runsTo has i:=⟨_,rfl⟩
      rw [← hx3] at hlen hrg hL
      have HR0:=Z0.mk (show Kd.R k103 103 wr w.heap.size (fun _=>True) u3 x3 from by rw [hx3];exact HO_3.out)
      have HX3:=Lib.hid hx3
      clear hx3 HO_3
      have HO_3:=HR0
      clear HR0
      obtain ⟨n1,hn1⟩:∃ n1:Nat,x3.length=n1 + 1:=⟨x3.length - 1,by omega⟩
      have hcnt:(rd_T103 x3 (n1:Int)).f1≤128∧1≤(rd_T103 x3 (n1:Int)).f1:=by
       have hm : rd_T103 x3 (n1:Int) ∈ runsTo has i:=by
        rw [← HX3.out]
        unfold rd_T103
        rw [Int.toNat_natCast,List.getD_eq_getElem?_getD,List.getElem?_eq_getElem (by omega)]
        exact List.getElem_mem _
       have:=(runsTo_range has i).1 _ hm
       omega
      have hwj : wrap64 ((rd_T103 x3 (n1:Int)).f1 + 1)=(rd_T103 x3 (n1:Int)).f1 + 1:=by unfold wrap64;omega
      have hb1 : x3.set n1 ⟨(rd_T103 x3 (n1:Int)).f0,(rd_T103 x3 (n1:Int)).f1 + 1⟩=bump x3:=by
       unfold bump rd_T103
       rw [show x3.length - 1=n1 by omega,Int.toNat_natCast]
      have HB1:=Lib.hid hb1
      clear hb1 hL hR
      obtain ⟨go17,co17,eo17,gb17,gl17,cl17,HG17⟩:=Kd.R_form HO_3.out (by omega)
      subst eo17
      have GB17:=Z0.mk gb17
      have GG17:=Z0.mk HG17
      clear gb17 gl17 HG17
      obtain ⟨ce17,hcl17,hM17,hcc17,hfr17⟩:=Kd.R_elem HO_3.out z103 (n1:Int) (by omega) (by omega)
      obtain rfl:=k103_openM hM17
      have hx17_0 : wr.cell? ⟨go17,n1 * 2,none⟩=some (.int .i64 ((rd_T103 x3 (n1:Int)).f0)):=hcc17 0 _ rfl
      have hx17_1 : wr.cell? ⟨go17,n1 * 2 + 1,none⟩=some (.int .i64 ((rd_T103 x3 (n1:Int)).f1)):=hcc17 1 _ rfl
      have hf17_1 : wr.frozen? ⟨go17,n1 * 2 + 1,none⟩=false:=hfr17 1
      have HP:=Z0.mk (Kd.R_seg HO_3.out (n1:Int) (by omega) (by omega) (seg:=[.int .i64 ((rd_T103 x3 (n1:Int)).f1 + 1)]) (j:=1) hcl17 hcc17 (show 2≤2 from by decide) (x':=(⟨(rd_T103 x3 (n1:Int)).f0,(rd_T103 x3 (n1:Int)).f1 + 1⟩:S103)) (k103_mkM _ _ _ (⟨(rd_T103 x3 (n1:Int)).f0,(rd_T103 x3 (n1:Int)).f1 + 1⟩:S103)) (fun _ hk=>hk))
      clear hcl17 hcc17 hfr17 hM17
      rw [hn1]
      have hn2:((n1 + 1:Nat):Int) - 1=n1:=by omega
      go_wp2
      go_quiet (fail)
      go_wp2
      go_roundw
      case rel =>
       refine ⟨i + 1,by omega,by go_num,?_,zbS (zbN HB.out _) GB17.out⟩
       have z:=HP.out.1
       rw [Int.toNat_natCast,HB1.out,HX3.out] at z
       rw [HQ.out,if_neg HN.out,if_pos ⟨hp,HH2.out⟩]
       rw [← HX3.out,hn1] at z
       rw [← HX3.out]
       exact z
      case measure=>simp [intOf];omega
    obtain rfl : i=0:=by omega
    obtain ⟨y308,hy308⟩:∃ y_:List (S103),y_=(runsTo has 0++[(⟨0,1⟩:S103)]):=⟨_,rfl⟩
    have Ny308:=Z0.mk hy308
    clear hy308
    go_wp2_with fail
    go_quiet (fail)
    go_wp2_with (first|((with_reducible refine gate_builtin (b:=.append) (xs:=#[.tmp 13,.tmp 16]) rfl ?_);at_builtin;refine Kd.R_append k103 (w0:=w) w.heap.size rfl (.tmp 13) (.tmp 16) 35 103 (.agg #[(.int .i64 0),(.int .i64 0)]) 16 rfl Try.underlying35 info103 rfl (by decide) (by omega) u3 (runsTo has 0) (⟨0,1⟩:S103) [.int .i64 0,.int .i64 1] (fun _=>True) (fun _=>False) rfl rfl ?aP (fun _ hk=>hk.elim) ?aF ?aO ?aB ?aS ?aL ?_;(case aP=>exact k103_mkM _ _ _ (⟨0,1⟩:S103));(case aB=>exact (by repeat (first|(with_reducible first|exact HB.out|apply zbA|apply zbN|apply zb1)|exact HB.out)));(case aF=>exact (fun _ _=>trivial));(case aO=>exact (by (with_reducible repeat (first|apply Kd.R_alloc|apply Kd.R_drewN|apply Kd.R_drew));exact HO_3.out));(case aS=>exact (below_size (by repeat (first|(with_reducible first|exact HB.out|apply zbA|apply zbN|apply zb1)|exact HB.out))));(case aL=>omega);intro v309 w22 ho hb hg hat;rw [← Ny308.out] at ho;have n0_:=Z0.mk (hb);have n1_:=Z0.mk (ho);clear HB;clear HO_3;have HB:=n0_;have HO310:=n1_;clear n0_ n1_;clear ho hb hg hat))
    go_roundw
    case rel =>
     refine ⟨0 + 1,by omega,by go_num,?_,HB.out⟩
     rw [HQ.out,if_neg HN.out,if_neg (fun h=>by omega)]
     have z:=HO310.out
     rw [Ny308.out] at z
     exact z
    case measure=>simp [intOf]
  obtain rfl : i=128:=by omega
  go_wp2
  go_ret
  exact ⟨_,rfl,HO_3.out,HB.out⟩
end Go.Proofs.Ytegefemkmdlmaaa.P
end
section
namespace Go.Proofs.Ytegefemkmdlmaaa.P
open Go.RowKit Go.Proofs.YtegefemkmdlmaaaW.PrintWords Go.Proofs.YtegefemkmdlmaaaW.PrintLast Go.Proofs.YtegefemkmdlmaaaW.PrintMore
set_option linter.unusedVariables false
set_option linter.unusedSimpArgs false
set_option maxRecDepth 100000 in
set_option maxHeartbeats 4000000 in
theorem extent_Normal.calls (A0:Option Addr) (c0:Nat) (l0:List (S103)) (r:List (S103)) (w:World) (hr0:Kd.C k103 w A0 l0.length l0) (hc0 : l0.length≤c0) (h : extent_Normal.f l0=some r) :
  Calls Try.prog 42 #[.slice A0 l0.length c0] w fun e w'=>∃ v0_:Value,e=.returned (v0_)∧Kd.R k103 103 w' w.heap.size (fun _=>True) v0_ r∧Below w.heap.size w w':=by
 unfold extent_Normal.f at h
 by_cases hok : okL l0=true
 ·rw [if_pos hok] at h
  obtain rfl:=Option.some.inj h
  clear h
  have hz:=zero106.1
  have HI:=Z0.mk zero106.2
  have HR:=Z0.mk hr0
  have HOK:=Z0.mk hok
  clear hr0 hok
  go_enter Try.func42,Try.ntmps42
  go_wp2_with (first
   | (go_at_call 98;refine (of_any A0 c0 l0 _ HR.out HOK.out).mono ?_;rintro e w1 ⟨rfl,hb⟩;have HB1:=Z0.mk hb;clear hb)
   | (refine wpList_store_row rfl 106 (.tmp 3) (.tmp 5) rfl w1.heap.size (rowB fun t=>inL l0 t) rfl rfl 106 _ (heap_alloc_new w1 _) (by rw [rowB_size];exact HI.out) (by rw [rowB_size,rowB_size]) (rowB_one _) ?_))
  have hrow:=setRow_heap (w1.alloc (.cells (rowB fun _=>false) 106)) w1.heap.size _ (rowB fun t=>inL l0 t) 106 (0,0) (heap_alloc_new w1 _)
  have HB2:=Z0.mk (below_setRow (zbA HB1.out (.cells (rowB fun _=>false) 106)) HB1.out.size (rowB fun t=>inL l0 t))
  refine (runs_any (fun t=>inL l0 t) w1.heap.size _ hrow).mono ?_
  rintro e w2 ⟨v,rfl,ho,hb⟩
  have n0_:=Z0.mk (Kd.R_lower ho (below_size HB2.out))
  have n1_:=Z0.mk (below_step HB2.out hb)
  clear ho hb
  go_wp2
  go_ret
  exact ⟨_,rfl,n0_.out,n1_.out⟩
 rw [if_neg hok] at h
 exact absurd h (by simp)
end Go.Proofs.Ytegefemkmdlmaaa.P
end
