import Derived.Test.YtegefemkmdlmaaaF0
import Derived.Test.YtegefemkmdlmaaaF96
namespace Go.Proofs.Ytegefemkmdlmaaa.P
open Go.RowKit Go.Proofs.YtegefemkmdlmaaaW.PrintWords Go.Proofs.YtegefemkmdlmaaaW.PrintLast Go.Proofs.YtegefemkmdlmaaaW.PrintMore
attribute [local go_sem] max2_int min2_int max_two min_two max_three min_three max_four min_four
set_option linter.unusedVariables false
set_option linter.unusedSimpArgs false
mutual
def q5Sequence.l0:Nat→List (S103)→List Int→Int→Option (List Int)
 | 0,_,_,_=>none
 | k + 1,x0,x3,x4=>if x4 < (x0.length:Int) then (if 0≤x4 then ((q5clip.f k ((rd_T103 x0 x4).f0) ((rd_T103 x0 x4).f1)).bind fun bt473=>(q5Sequence.l1 k x0 x3 x4 0 bt473.1 bt473.2)) else (none)) else (some x3)
def q5Sequence.l1:Nat→List (S103)→List Int→Int→Int→Int→Int→Option (List Int)
 | 0,_,_,_,_,_,_=>none
 | k + 1,x0,x3,x4,x6,x476000,x476001=>if x6 < x476001 then (if x3.length < 17592186044416 then (q5Sequence.l1 k x0 (x3++[wrap64 (x476000 + x6)]) x4 (wrap64 (x6 + 1)) x476000 x476001) else (none)) else (q5Sequence.l0 k x0 x3 (wrap64 (x4 + 1)))
end
def q5Sequence.f (k:Nat) (l0:List (S103)):Option (List Int):=q5Sequence.l0 k l0 (([]:List Int)) 0
theorem q5Sequence.mono_l:∀ k,(∀ y0 y1 y2,LeO (q5Sequence.l0 k y0 y1 y2) (q5Sequence.l0 (k + 1) y0 y1 y2))∧(∀ y0 y1 y2 y3 y4 y5,LeO (q5Sequence.l1 k y0 y1 y2 y3 y4 y5) (q5Sequence.l1 (k + 1) y0 y1 y2 y3 y4 y5))
 | 0=>⟨fun _ _ _ r h=>by simp [q5Sequence.l0] at h,fun _ _ _ _ _ _ r h=>by simp [q5Sequence.l1] at h⟩
 | k + 1=>by
  obtain ⟨ih0,ih1⟩:=q5Sequence.mono_l k
  refine ⟨?_,?_⟩
  ·intro y0 y1 y2
   unfold q5Sequence.l0
   repeat' first
   | (with_reducible exact ih0 _ _ _)
   | (with_reducible exact ih1 _ _ _ _ _ _)
   | (with_reducible exact q5clip.mono _ _ _)
   | (with_reducible exact LeO.refl _)
   | (with_reducible exact LeO.none _)
   | (with_reducible refine LeO.ite ?_ ?_)
   | (with_reducible refine LeO.bind ?_ (fun _=>?_))
   | exact ih0 _ _ _
   | exact ih1 _ _ _ _ _ _
   | exact q5clip.mono _ _ _
   | exact LeO.none _
   | refine LeO.ite ?_ ?_
   | refine LeO.bind ?_ (fun _=>?_)
  intro y0 y1 y2 y3 y4 y5
  unfold q5Sequence.l1
  repeat' first
  | (with_reducible exact ih0 _ _ _)
  | (with_reducible exact ih1 _ _ _ _ _ _)
  | (with_reducible exact q5clip.mono _ _ _)
  | (with_reducible exact LeO.refl _)
  | (with_reducible exact LeO.none _)
  | (with_reducible refine LeO.ite ?_ ?_)
  | (with_reducible refine LeO.bind ?_ (fun _=>?_))
  | exact ih0 _ _ _
  | exact ih1 _ _ _ _ _ _
  | exact q5clip.mono _ _ _
  | exact LeO.none _
  | refine LeO.ite ?_ ?_
  | refine LeO.bind ?_ (fun _=>?_)
theorem q5Sequence.mono:∀ a0 k,LeO (q5Sequence.f k a0) (q5Sequence.f (k + 1) a0):=by
 intro a0 k
 obtain ⟨ih0,ih1⟩:=q5Sequence.mono_l k
 unfold q5Sequence.f
 repeat' first
   | (with_reducible exact ih0 _ _ _)
   | (with_reducible exact ih1 _ _ _ _ _ _)
   | (with_reducible exact q5clip.mono _ _ _)
   | (with_reducible exact LeO.refl _)
   | (with_reducible exact LeO.none _)
   | (with_reducible refine LeO.ite ?_ ?_)
   | (with_reducible refine LeO.bind ?_ (fun _=>?_))
   | exact ih0 _ _ _
   | exact ih1 _ _ _ _ _ _
   | exact q5clip.mono _ _ _
   | exact LeO.none _
   | refine LeO.ite ?_ ?_
   | refine LeO.bind ?_ (fun _=>?_)
set_option maxHeartbeats 8000000 in
set_option maxRecDepth 100000 in
theorem q5Sequence.calls (k:Nat) (A0:Option Addr) (c0:Nat) (l0:List (S103)) (r:List Int) (w:World) (hr0:Kd.C k103 w A0 l0.length l0) (hc0 : l0.length≤c0) (h : q5Sequence.f k l0=some r) :
  Calls Try.prog 55 #[.slice A0 l0.length c0] w fun e w'=>∃ v0_:Value,e=.returned (v0_)∧Kd.R (Kd.int .i64) 3 w' w.heap.size (fun _=>True) v0_ r∧Below w.heap.size w w':=by
 have hu103:=Try.underlying103
 have HR0:=Z0.mk hr0
 have HC0:=Z0.mk hc0
 clear hr0 hc0
 have HB:=Z0.mk (Below.refl w.heap.size w)
 have H:(q5Sequence.l0 k l0 (([]:List Int)) 0)=some r:=h
 clear h
 obtain ⟨y469,hy469⟩:∃ y_:List Int,y_=(([]:List Int)):=⟨_,rfl⟩
 replace H:(q5Sequence.l0 k l0 y469 0)=some r:=by first|(rw [hy469];with_reducible exact H)|(have H2_:=(Option.bind_some _ _).symm.trans H;rw [hy469];with_reducible exact H2_)|(have H2_:=(Option.bind_some _ _).symm.trans H;with_reducible exact H2_)|with_reducible exact H|(rw [hy469];exact H)|exact H
 have Ny469:=Z0.mk hy469
 clear hy469
 have H':=Z0.mk H
 clear H
 go_enter Try.func55,Try.ntmps55
 go_wp2_with (first|((with_reducible refine gate_dst (N:=7) rfl ?_);refine Kd.R_lit (Kd.int .i64) _ 3 ?hg (N:=7) ?hd (xs:=([]:List Int)) (inner:=[]) (ok:=fun _=>True) (okp:=fun _=>True) ?hr ?hp (fun _ hk=>hk) trivial (Below.refl _ _) (Nat.le_refl _) (by simp) ?_;(case hd=>rfl);(case hg=>rfl);(case hr=>first|(go_simp;done)|(go_simp;rfl));(case hp=>exact (Reps.none _ _));intro v470 w2 ho3 hb hg_ hnew_;clear hg_ hnew_;(first|rw [← Ny469.out] at ho3|(simp only [Int.reduceToNat] at ho3;rw [← Ny469.out] at ho3));have n0_:=Z0.mk (Kd.R_lower ho3 (below_size (by repeat (first|(with_reducible first|exact HB.out|apply zbA|apply zbN|apply zb1)|exact HB.out))));have n1_:=Z0.mk (below_step (by repeat (first|(with_reducible first|exact HB.out|apply zbA|apply zbN|apply zb1)|exact HB.out)) hb);clear HB;have HO471:=n0_;have HB:=n1_;clear n0_ n1_;clear hb ho3))
 go_loopg [3,4] k (fun kq v3 v4 w'=>∃ (x3_1:List Int) (x4_1:Int),v4=.int .i64 x4_1∧Z0 (q5Sequence.l0 kq l0 x3_1 x4_1=some r)∧Z0 (kq≤k)∧Z0 (Kd.R (Kd.int .i64) 3 w' w.heap.size (fun _=>True) v3 x3_1)∧Z0 (Below w.heap.size w w'))
 case atStart=>exact ⟨(y469),(0),(by first|rfl|(simp;done)|(simp [*];done)),H',⟨Nat.le_refl _⟩,⟨by (with_reducible repeat (first|apply Kd.R_alloc|apply Kd.R_drewN|apply Kd.R_drew));exact HO471.out⟩,⟨by repeat (first|(with_reducible first|exact HB.out|apply zbA|apply zbN|apply zb1)|exact HB.out)⟩⟩
 case round =>
  clear H'
  try clear p2
  obtain ⟨x3_1,x4_1,rfl,HA,HK1,HO_3,HB⟩:=hrel
  cases gk with
  | zero=>exact absurd HA.out (by simp [q5Sequence.l0])
  | succ k1 =>
   have H:=HA.out
   clear HA
   simp only [q5Sequence.l0] at H
   by_cases c4 : x4_1 < (l0.length:Int)
   ·rw [if_pos c4] at H
    have c4b0 : decide (x4_1 < (l0.length:Int))=true:=decide_eq_true c4
    clear c4
    by_cases c5 : 0≤x4_1
    ·rw [if_pos c5] at H
     have c5b0 : decide (0≤x4_1)=true:=decide_eq_true c5
     clear c5
     replace H:=Option.bind_eq_some_iff.mp H
     obtain ⟨⟨t473,t474⟩,A60,H⟩:=H
     replace H:(q5Sequence.l1 k1 l0 x3_1 x4_1 0 t473 t474)=some r:=H
     have A6:=Z0.mk A60
     clear A60
     have H':=Z0.mk H
     clear H
     have p472 : 0≤(x4_1:Int):=of_decide_eq_true (by first|(with_reducible assumption)|assumption)
     have q472 : x4_1 < (l0.length:Int):=of_decide_eq_true (by first|(with_reducible assumption)|assumption)
     obtain ⟨ad472,e472,hx472_0,hx472_1⟩:=at_T103 HR0.out x4_1 p472 q472
     cases e472
     replace hx472_0:=(HB.out.cell (World.block_lt_of_cell? w _ hx472_0)).trans hx472_0
     replace hx472_1:=(HB.out.cell (World.block_lt_of_cell? w _ hx472_1)).trans hx472_1
     replace p472:=eq_true p472
     replace q472:=eq_true q472
     go_wp2_with (first|((with_reducible refine gate_callee (f:=96) rfl ?_);refine goesL_ (some 18) rfl rfl Try.func96 (by kernel_rfl) rfl #[.agg #[.int .i64 ((rd_T103 l0 x4_1).f0),.int .i64 ((rd_T103 l0 x4_1).f1)]] rfl (by (try simp only [List.map_toArray,List.map_cons,List.map_nil]);first|done|rfl|(simp only [List.length_drop,List.length_take];rfl)) ?_;(with_reducible refine (q5clip.calls k1 ((rd_T103 l0 x4_1).f0) ((rd_T103 l0 x4_1).f1) t473 t474 _ A6.out).mono ?_);rintro e w7 ⟨rfl,hb⟩;refine ⟨_,rfl,?_⟩;have n0_:=Z0.mk (Kd.R_below (by (with_reducible repeat (first|apply Kd.R_alloc|apply Kd.R_drewN|apply Kd.R_drew));exact HO_3.out) hb);have n1_:=Z0.mk (below_step (by repeat (first|(with_reducible first|exact HB.out|apply zbA|apply zbN|apply zb1)|exact HB.out)) hb);clear HO_3;clear HB;have HO_3:=n0_;have HB:=n1_;clear n0_ n1_;(try clear hb);(try clear hb2);(try clear hk);(try clear hi))|((with_reducible refine gate_dst (N:=5) rfl ?_);refine box_event ?hg (N:=5) ?hd (cs:=#[.int .i64 0,.int .i64 0]) (t:=103) ?hr ?_;(case hd=>rfl);(case hg=>rfl);(case hr=>first|(go_simp;done)|(go_simp;rfl));intro gb475 hg w8 hbox hb;have n0_:=Z0.mk (Kd.R_below (by (with_reducible repeat (first|apply Kd.R_alloc|apply Kd.R_drewN|apply Kd.R_drew));exact HO_3.out) hb);have n1_:=Z0.mk (below_step (by repeat (first|(with_reducible first|exact HB.out|apply zbA|apply zbN|apply zb1)|exact HB.out)) hb);have n2_:=Z0.mk (hbox);have n3_:=Z0.mk ((by rw [hg];exact (below_size (by repeat (first|(with_reducible first|exact HB.out|apply zbA|apply zbN|apply zb1)|exact HB.out))) : w.heap.size≤gb475));have n4_:=Z0.mk ((by rw [hg];exact (below_size (by repeat (first|(with_reducible first|exact HB.out|apply zbA|apply zbN|apply zb1)|exact HB.out))) : w.heap.size≤gb475));clear HO_3;clear HB;have HO_3:=n0_;have HB:=n1_;have BK475:=n2_;have GW475:=n3_;have GE475:=n4_;clear n0_ n1_ n2_ n3_ n4_;clear hb hbox hg;have hcz9_0 : w8.cell? ⟨gb475,0,none⟩=some (.int .i64 0):=(zkC BK475.out 0).trans rfl;have hcz9_1 : w8.cell? ⟨gb475,1,none⟩=some (.int .i64 0):=(zkC BK475.out 1).trans rfl;have hfz9_0:=zkF BK475.out 0;have hfz9_1:=zkF BK475.out 1))
     go_loopg [3,6] k1 (fun kq v3 v6 w'=>∃ (x3_2:List Int) (x6_2:Int),v6=.int .i64 x6_2∧Z0 (q5Sequence.l1 kq l0 x3_2 x4_1 x6_2 t473 t474=some r)∧Z0 (kq≤k1)∧Z0 (Kd.R (Kd.int .i64) 3 w' w.heap.size (fun _=>True) v3 x3_2)∧Z0 (w'.heap[gb475]?=some (.cells #[.int .i64 t473,.int .i64 t474] 103 (0,0)))∧Z0 (Below w.heap.size w w'))
     case atStart=>exact ⟨(x3_1),(0),(by first|rfl|(simp;done)|(simp [*];done)),H',⟨Nat.le_refl _⟩,⟨by (with_reducible repeat (first|apply Kd.R_alloc|apply Kd.R_drewN|apply Kd.R_drew));exact Kd.R_mono (Kd.R_far (p:=⟨gb475,1,none⟩) (Kd.R_far (p:=⟨gb475,0,none⟩) (Kd.R_types HO_3.out BK475.out (by decide)) (fun _ hk=>hk.2) (.int .i64 t473)) (fun _ hk=>hk.2) (.int .i64 t474)) (fun _ hk=>trivial)⟩,⟨by (with_reducible repeat (first|refine zkN ?_ _|refine zkD ?_|refine zkA ?_ _));refine blk_put (cs:=#[.int .i64 t473,.int .i64 0]) ?_ 1 _ rfl;(with_reducible repeat (first|refine zkN ?_ _|refine zkD ?_|refine zkA ?_ _));refine blk_put (cs:=#[.int .i64 0,.int .i64 0]) ?_ 0 _ rfl;(with_reducible repeat (first|refine zkN ?_ _|refine zkD ?_|refine zkA ?_ _));exact BK475.out⟩,⟨by repeat (first|(with_reducible first|exact HB.out|apply zbA|apply zbN|apply zb1|refine zbS ?_ GE475.out)|exact HB.out)⟩⟩
     case round =>
      clear H'
      try clear p2
      try clear c4
      try clear c4b0
      try clear p4
      try clear q4
      try clear hx4
      try clear c5
      try clear c5b0
      try clear c9
      try clear hcz9_0
      try clear hcz9_1
      try clear hfz9_0
      try clear hfz9_1
      try clear hx472_0
      try clear hx472_1
      try clear p2
      try clear p472
      try clear q472
      obtain ⟨x3_2,x6_2,rfl,HA,HK2,HO_3,BK475,HB⟩:=hrel
      cases gk with
      | zero=>exact absurd HA.out (by simp [q5Sequence.l1])
      | succ k2 =>
       have H:=HA.out
       clear HA
       simp only [q5Sequence.l1] at H
       by_cases c10 : x6_2 < t474
       ·rw [if_pos c10] at H
        have c10b0 : decide (x6_2 < t474)=true:=decide_eq_true c10
        clear c10
        by_cases c11 : x3_2.length < 17592186044416
        ·rw [if_pos c11] at H
         have LMc11:=Z0.mk c11
         clear c11
         obtain ⟨y476,hy476⟩:∃ y_:List Int,y_=(x3_2++[wrap64 (t473 + x6_2)]):=⟨_,rfl⟩
         replace H:(q5Sequence.l1 k2 l0 y476 x4_1 (wrap64 (x6_2 + 1)) t473 t474)=some r:=by first|(rw [hy476];with_reducible exact H)|(have H2_:=(Option.bind_some _ _).symm.trans H;rw [hy476];with_reducible exact H2_)|(have H2_:=(Option.bind_some _ _).symm.trans H;with_reducible exact H2_)|with_reducible exact H|(rw [hy476];exact H)|exact H
         have Ny476:=Z0.mk hy476
         clear hy476
         have H':=Z0.mk H
         clear H
         have hcz12_0 : wr.cell? ⟨gb475,0,none⟩=some (.int .i64 t473):=(zkC BK475.out 0).trans rfl
         have hcz12_1 : wr.cell? ⟨gb475,1,none⟩=some (.int .i64 t474):=(zkC BK475.out 1).trans rfl
         have hfz12_0:=zkF BK475.out 0
         have hfz12_1:=zkF BK475.out 1
         go_wp2_with (first|((with_reducible refine gate_builtin (b:=.append) (xs:=#[.tmp 25,.tmp 30]) rfl ?_);at_builtin;refine Kd.R_append (Kd.int .i64) (w0:=w) w.heap.size rfl (.tmp 25) (.tmp 30) 52 3 (.int .i64 0) 8 rfl Try.underlying52 info3 rfl (by decide) (by omega) u3 x3_2 (wrap64 (t473 + x6_2)) [.int .i64 (wrap64 (t473 + x6_2))] (fun _=>True) (fun _=>False) rfl rfl ?aP (fun _ hk=>hk.elim) ?aF ?aO ?aB ?aS ?aL ?_;(case aP=>exact rfl);(case aB=>exact (by repeat (first|(with_reducible first|exact HB.out|apply zbA|apply zbN|apply zb1|refine zbS ?_ GE475.out)|exact HB.out)));(case aF=>exact (fun _ _=>trivial));(case aO=>exact (by (with_reducible repeat (first|apply Kd.R_alloc|apply Kd.R_drewN|apply Kd.R_drew));exact HO_3.out));(case aS=>exact (below_size (by repeat (first|(with_reducible first|exact HB.out|apply zbA|apply zbN|apply zb1|refine zbS ?_ GE475.out)|exact HB.out))));(case aL=>have:=LMc11.out;omega);intro v477 w13 ho hb hg hat;rw [← Ny476.out] at ho;have n0_:=Z0.mk (blk_grown (g:=gb475) (o:=.cells #[.int .i64 t473,.int .i64 t474] 103 (0,0)) (by (with_reducible repeat (first|refine zkN ?_ _|refine zkD ?_|refine zkA ?_ _));exact BK475.out) hg (Kd.R_ne HO_3.out BK475.out (by decide)));have n1_:=Z0.mk (hb);have n2_:=Z0.mk (ho);clear BK475;clear HB;clear HO_3;have BK475:=n0_;have HB:=n1_;have HO478:=n2_;clear n0_ n1_ n2_;clear ho hb hg hat))
         go_roundg k2
         case measure=>have:=HK1.out;have:=HK2.out;omega
         case rel=>exact ⟨(y476),(wrap64 (x6_2 + 1)),(by first|rfl|(simp;done)|(simp [*];done)),H',⟨by have:=HK1.out;have:=HK2.out;omega⟩,⟨by (with_reducible repeat (first|apply Kd.R_alloc|apply Kd.R_drewN|apply Kd.R_drew));exact HO478.out⟩,⟨by (with_reducible repeat (first|refine zkN ?_ _|refine zkD ?_|refine zkA ?_ _));exact BK475.out⟩,⟨by repeat (first|(with_reducible first|exact HB.out|apply zbA|apply zbN|apply zb1|refine zbS ?_ GE475.out)|exact HB.out)⟩⟩
        rw [if_neg c11] at H
        exact absurd H (by simp)
       rw [if_neg c10] at H
       have c10b0 : decide (x6_2 < t474)=false:=decide_eq_false c10
       clear c10
       have H':=Z0.mk H
       clear H
       have hcz14_0 : wr.cell? ⟨gb475,0,none⟩=some (.int .i64 t473):=(zkC BK475.out 0).trans rfl
       have hcz14_1 : wr.cell? ⟨gb475,1,none⟩=some (.int .i64 t474):=(zkC BK475.out 1).trans rfl
       have hfz14_0:=zkF BK475.out 0
       have hfz14_1:=zkF BK475.out 1
       go_wp2
       go_roundg k2
       case measure=>have:=HK1.out;have:=HK2.out;omega
       case rel=>exact ⟨(x3_2),(wrap64 (x4_1 + 1)),(by first|rfl|(simp;done)|(simp [*];done)),H',⟨by have:=HK1.out;have:=HK2.out;omega⟩,⟨by (with_reducible repeat (first|apply Kd.R_alloc|apply Kd.R_drewN|apply Kd.R_drew));exact HO_3.out⟩,⟨by repeat (first|(with_reducible first|exact HB.out|apply zbA|apply zbN|apply zb1|refine zbS ?_ GE475.out)|exact HB.out)⟩⟩
    rw [if_neg c5] at H
    exact absurd H (by simp)
   rw [if_neg c4] at H
   have c4b0 : decide (x4_1 < (l0.length:Int))=false:=decide_eq_false c4
   clear c4
   obtain rfl:=Option.some.inj H
   go_wp2
   go_ret
   exact ⟨_,by first|rfl|(simp [errW_none,errW_some] <;> rfl)|(simp [*,errW_none,errW_some] <;> rfl),by (with_reducible repeat (first|apply Kd.R_alloc|apply Kd.R_drewN|apply Kd.R_drew));exact HO_3.out,by repeat (first|(with_reducible first|exact HB.out|apply zbA|apply zbN|apply zb1)|exact HB.out)⟩
end Go.Proofs.Ytegefemkmdlmaaa.P
