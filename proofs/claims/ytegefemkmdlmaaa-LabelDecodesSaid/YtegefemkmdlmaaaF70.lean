import Derived.Test.YtegefemkmdlmaaaF0
import Derived.Test.YtegefemkmdlmaaaF107
namespace Go.Proofs.Ytegefemkmdlmaaa.P
open Go.RowKit Go.Proofs.YtegefemkmdlmaaaW.PrintWords Go.Proofs.YtegefemkmdlmaaaW.PrintLast Go.Proofs.YtegefemkmdlmaaaW.PrintMore
attribute [local go_sem] max2_int min2_int max_two min_two max_three min_three max_four min_four
set_option linter.unusedVariables false
set_option linter.unusedSimpArgs false
mutual
def q1ReadNumber.l0:Nat→Int→Int→ByteArray→Int→Option (Int×ByteArray×Int)
 | 0,_,_,_,_=>none
 | k + 1,x4,x5,x424000,x424001=>if x5 < (x424000.size:Int) then (q1ReadNumber.j1 k x4 x5 (decide (x5 < 10)) x424000 x424001) else (q1ReadNumber.j1 k x4 x5 false x424000 x424001)
def q1ReadNumber.j1:Nat→Int→Int→Bool→ByteArray→Int→Option (Int×ByteArray×Int)
 | 0,_,_,_,_,_=>none
 | k + 1,x4,x5,x19,x424000,x424001=>if x19=true then (if 0≤x5 then (if x5 < (x424000.size:Int) then (if x5=9 then (q1ReadNumber.j2 k x4 x5 (bt x424000 x5) (decide ((bt x424000 x5) > 1)) x424000 x424001) else (q1ReadNumber.j2 k x4 x5 (bt x424000 x5) false x424000 x424001)) else (none)) else (none)) else ((q1fail.f 11).bind fun bt425=>(some (0,bt425.1,bt425.2)))
def q1ReadNumber.j2:Nat→Int→Int→Int→Bool→ByteArray→Int→Option (Int×ByteArray×Int)
 | 0,_,_,_,_,_,_=>none
 | k + 1,x4,x5,x6,x31,x424000,x424001=>if x31=true then ((q1fail.f 11).bind fun bt427=>(some (0,bt427.1,bt427.2))) else (if 0≤(wrap64 (7 * x5)) then (if x6 < 128 then (if x6=0 then (if x5 > 0 then ((q1fail.f 11).bind fun bt429=>(some (0,bt429.1,bt429.2))) else (if 0≤(wrap64 (x5 + 1)) then (if (wrap64 (x5 + 1))≤(x424000.size:Int) then (some (IntKind.u64.wrap (x4 + (shl .u64 (IntKind.u64.wrap (Int.tmod x6 128)) (wrap64 (7 * x5)))),x424000.extract ((wrap64 (x5 + 1)):Int).toNat x424000.size,0)) else (none)) else (none))) else (if 0≤(wrap64 (x5 + 1)) then (if (wrap64 (x5 + 1))≤(x424000.size:Int) then (some (IntKind.u64.wrap (x4 + (shl .u64 (IntKind.u64.wrap (Int.tmod x6 128)) (wrap64 (7 * x5)))),x424000.extract ((wrap64 (x5 + 1)):Int).toNat x424000.size,0)) else (none)) else (none))) else (q1ReadNumber.l0 k (IntKind.u64.wrap (x4 + (shl .u64 (IntKind.u64.wrap (Int.tmod x6 128)) (wrap64 (7 * x5))))) (wrap64 (x5 + 1)) x424000 x424001)) else (none))
end
def q1ReadNumber.f (k:Nat) (a0_0:ByteArray) (a0_1:Int):Option (Int×ByteArray×Int):=if a0_1=0 then (q1ReadNumber.l0 k 0 0 a0_0 a0_1) else (some (0,a0_0,a0_1))
theorem q1ReadNumber.mono_l:∀ k,(∀ y0 y1 y2 y3,LeO (q1ReadNumber.l0 k y0 y1 y2 y3) (q1ReadNumber.l0 (k + 1) y0 y1 y2 y3))∧(∀ y0 y1 y2 y3 y4,LeO (q1ReadNumber.j1 k y0 y1 y2 y3 y4) (q1ReadNumber.j1 (k + 1) y0 y1 y2 y3 y4))∧(∀ y0 y1 y2 y3 y4 y5,LeO (q1ReadNumber.j2 k y0 y1 y2 y3 y4 y5) (q1ReadNumber.j2 (k + 1) y0 y1 y2 y3 y4 y5))
 | 0=>⟨fun _ _ _ _ r h=>by simp [q1ReadNumber.l0] at h,fun _ _ _ _ _ r h=>by simp [q1ReadNumber.j1] at h,fun _ _ _ _ _ _ r h=>by simp [q1ReadNumber.j2] at h⟩
 | k + 1=>by
  obtain ⟨ih0,ih1,ih2⟩:=q1ReadNumber.mono_l k
  refine ⟨?_,?_,?_⟩
  ·intro y0 y1 y2 y3
   unfold q1ReadNumber.l0
   repeat' first
   | (with_reducible exact ih0 _ _ _ _)
   | (with_reducible exact ih1 _ _ _ _ _)
   | (with_reducible exact ih2 _ _ _ _ _ _)
   | (with_reducible exact LeO.refl _)
   | (with_reducible exact LeO.none _)
   | (with_reducible refine LeO.ite ?_ ?_)
   | (with_reducible refine LeO.bind ?_ (fun _=>?_))
   | exact ih0 _ _ _ _
   | exact ih1 _ _ _ _ _
   | exact ih2 _ _ _ _ _ _
   | exact LeO.none _
   | refine LeO.ite ?_ ?_
   | refine LeO.bind ?_ (fun _=>?_)
  ·intro y0 y1 y2 y3 y4
   unfold q1ReadNumber.j1
   repeat' first
   | (with_reducible exact ih0 _ _ _ _)
   | (with_reducible exact ih1 _ _ _ _ _)
   | (with_reducible exact ih2 _ _ _ _ _ _)
   | (with_reducible exact LeO.refl _)
   | (with_reducible exact LeO.none _)
   | (with_reducible refine LeO.ite ?_ ?_)
   | (with_reducible refine LeO.bind ?_ (fun _=>?_))
   | exact ih0 _ _ _ _
   | exact ih1 _ _ _ _ _
   | exact ih2 _ _ _ _ _ _
   | exact LeO.none _
   | refine LeO.ite ?_ ?_
   | refine LeO.bind ?_ (fun _=>?_)
  intro y0 y1 y2 y3 y4 y5
  unfold q1ReadNumber.j2
  repeat' first
  | (with_reducible exact ih0 _ _ _ _)
  | (with_reducible exact ih1 _ _ _ _ _)
  | (with_reducible exact ih2 _ _ _ _ _ _)
  | (with_reducible exact LeO.refl _)
  | (with_reducible exact LeO.none _)
  | (with_reducible refine LeO.ite ?_ ?_)
  | (with_reducible refine LeO.bind ?_ (fun _=>?_))
  | exact ih0 _ _ _ _
  | exact ih1 _ _ _ _ _
  | exact ih2 _ _ _ _ _ _
  | exact LeO.none _
  | refine LeO.ite ?_ ?_
  | refine LeO.bind ?_ (fun _=>?_)
theorem q1ReadNumber.mono:∀ a0 a1 k,LeO (q1ReadNumber.f k a0 a1) (q1ReadNumber.f (k + 1) a0 a1):=by
 intro a0 a1 k
 obtain ⟨ih0,ih1,ih2⟩:=q1ReadNumber.mono_l k
 unfold q1ReadNumber.f
 repeat' first
   | (with_reducible exact ih0 _ _ _ _)
   | (with_reducible exact ih1 _ _ _ _ _)
   | (with_reducible exact ih2 _ _ _ _ _ _)
   | (with_reducible exact LeO.refl _)
   | (with_reducible exact LeO.none _)
   | (with_reducible refine LeO.ite ?_ ?_)
   | (with_reducible refine LeO.bind ?_ (fun _=>?_))
   | exact ih0 _ _ _ _
   | exact ih1 _ _ _ _ _
   | exact ih2 _ _ _ _ _ _
   | exact LeO.none _
   | refine LeO.ite ?_ ?_
   | refine LeO.bind ?_ (fun _=>?_)
def q1ReadNumber.T14:Bool×List (List Nat×List Nat):=(true,[([],[]),([],[]),([1],[1]),([],[]),([3],[3]),([2,4],[2,4]),([5],[5]),([0,0],[0]),([6,7,0,1,2,3,4,5,6,7],[6])])
def q1ReadNumber.B14:List Nat:=[0,0,2,0,8,30,62,1,255]
theorem q1ReadNumber.tab14 : rtab .any (opsOf Try.f70 14)=q1ReadNumber.T14:=by kernel_rfl
theorem q1ReadNumber.bits14 : waitsOk q1ReadNumber.T14.2 q1ReadNumber.B14=true:=by kernel_rfl
set_option maxHeartbeats 8000000 in
set_option maxRecDepth 100000 in
theorem q1ReadNumber.calls (k:Nat) (a0_0:ByteArray) (a0_1:Int) (r1:Int) (r2:ByteArray) (r3:Int) (w:World) (h : q1ReadNumber.f k a0_0 a0_1=some (r1,r2,r3)) :
  Calls Try.prog 70 #[.agg #[.string a0_0,.int .i64 a0_1]] w fun e w'=>e=.returned (.tuple #[.int .u64 r1,.agg #[.string r2,.int .i64 r3]])∧Below w.heap.size w w':=by
 have hu69:=Try.underlying69
 have HB:=Z0.mk (Below.refl w.heap.size w)
 have H:(if a0_1=0 then (q1ReadNumber.l0 k 0 0 a0_0 a0_1) else (some (0,a0_0,a0_1)))=some (r1,r2,r3):=h
 clear h
 by_cases c2 : a0_1=0
 ·rw [if_pos c2] at H
  have c2b0:(a0_1 == 0)=true:=beq_iff_eq.mpr c2
  have c2b1:(a0_1 != 0)=false:=bne_eq_false_iff_eq.mpr c2
  clear c2
  have H':=Z0.mk H
  clear H
  go_enter Try.func70,Try.ntmps70
  go_wp2_with (first|((with_reducible refine gate_dst (N:=1) rfl ?_);refine box_event ?hg (N:=1) ?hd (cs:=#[.string a0_0,.int .i64 a0_1]) (t:=69) ?hr ?_;(case hd=>rfl);(case hg=>rfl);(case hr=>first|(go_simp;done)|(go_simp;rfl));intro gb423 hg w3 hbox hb;have n0_:=Z0.mk (below_step (by repeat (first|(with_reducible first|exact HB.out|apply zbA|apply zbN|apply zb1)|exact HB.out)) hb);have n1_:=Z0.mk (hbox);have n2_:=Z0.mk ((by rw [hg];exact (below_size (by repeat (first|(with_reducible first|exact HB.out|apply zbA|apply zbN|apply zb1)|exact HB.out))) : w.heap.size≤gb423));have n3_:=Z0.mk ((by rw [hg];exact (below_size (by repeat (first|(with_reducible first|exact HB.out|apply zbA|apply zbN|apply zb1)|exact HB.out))) : w.heap.size≤gb423));clear HB;have HB:=n0_;have BK423:=n1_;have GW423:=n2_;have GE423:=n3_;clear n0_ n1_ n2_ n3_;clear hb hbox hg)|((with_reducible refine gate_dst (N:=3) rfl ?_);refine box_event ?hg (N:=3) ?hd (cs:=#[.string (⟨#[]⟩:ByteArray),.int .i64 0]) (t:=69) ?hr ?_;(case hd=>rfl);(case hg=>rfl);(case hr=>first|(go_simp;done)|(go_simp;rfl));intro gb424 hg w4 hbox hb;have n0_:=Z0.mk (blk_below (g:=gb423) (o:=.cells #[.string a0_0,.int .i64 a0_1] 69 (0,0)) (by (with_reducible repeat (first|refine zkN ?_ _|refine zkD ?_|refine zkA ?_ _));exact BK423.out) hb);have n1_:=Z0.mk (below_step (by repeat (first|(with_reducible first|exact HB.out|apply zbA|apply zbN|apply zb1|refine zbS ?_ GE423.out)|exact HB.out)) hb);have n2_:=Z0.mk (hbox);have n3_:=Z0.mk ((by rw [hg];exact (below_size (by repeat (first|(with_reducible first|exact HB.out|apply zbA|apply zbN|apply zb1|refine zbS ?_ GE423.out)|exact HB.out))) : w.heap.size≤gb424));have n4_:=Z0.mk ((by rw [hg];exact (below_size (by repeat (first|(with_reducible first|exact HB.out|apply zbA|apply zbN|apply zb1|refine zbS ?_ GE423.out)|exact HB.out))) : w.heap.size≤gb424));have n5_:=Z0.mk ((by rw [hg];exact Nat.ne_of_lt (blk_lt (g:=gb423) (o:=.cells #[.string a0_0,.int .i64 a0_1] 69 (0,0)) (by (with_reducible repeat (first|refine zkN ?_ _|refine zkD ?_|refine zkA ?_ _));exact BK423.out)) : gb423 ≠ gb424));have n6_:=Z0.mk ((by rw [hg];exact Nat.ne_of_gt (blk_lt (g:=gb423) (o:=.cells #[.string a0_0,.int .i64 a0_1] 69 (0,0)) (by (with_reducible repeat (first|refine zkN ?_ _|refine zkD ?_|refine zkA ?_ _));exact BK423.out)) : gb424 ≠ gb423));clear BK423;clear HB;have BK423:=n0_;have HB:=n1_;have BK424:=n2_;have GW424:=n3_;have GE424:=n4_;have NB423_424:=n5_;have NB424_423:=n6_;clear n0_ n1_ n2_ n3_ n4_ n5_ n6_;clear hb hbox hg;have hnb5:=NB423_424.out;have hnc5:=NB424_423.out;have hcz6_0 : w4.cell? ⟨gb423,0,none⟩=some (.string a0_0):=(zkC BK423.out 0).trans rfl;have hcz6_1 : w4.cell? ⟨gb423,1,none⟩=some (.int .i64 a0_1):=(zkC BK423.out 1).trans rfl;have hfz6_0:=zkF BK423.out 0;have hfz6_1:=zkF BK423.out 1))
  go_loopg [4,5] k (fun kq v4 v5 w'=>∃ (x4_1:Int) (x5_1:Int) (x425000_1:ByteArray) (x425001_1:Int),v4=.int .u64 x4_1∧v5=.int .i64 x5_1∧Z0 (q1ReadNumber.l0 kq x4_1 x5_1 a0_0 a0_1=some (r1,r2,r3))∧Z0 (kq≤k)∧Z0 (w'.heap[gb423]?=some (.cells #[.string a0_0,.int .i64 a0_1] 69 (0,0)))∧Z0 (w'.heap[gb424]?=some (.cells #[.string x425000_1,.int .i64 x425001_1] 69 (0,0)))∧Z0 (Below w.heap.size w w'))
  case atStart=>exact ⟨(0),(0),((⟨#[]⟩:ByteArray)),(0),(by first|rfl|(simp;done)|(simp [*];done)),(by first|rfl|(simp;done)|(simp [*];done)),H',⟨Nat.le_refl _⟩,⟨by (with_reducible repeat (first|refine zkN ?_ _|refine zkD ?_|refine zkA ?_ _));exact BK423.out⟩,⟨by (with_reducible repeat (first|refine zkN ?_ _|refine zkD ?_|refine zkA ?_ _));exact BK424.out⟩,⟨by repeat (first|(with_reducible first|exact HB.out|apply zbA|apply zbN|apply zb1|refine zbS ?_ GE423.out|refine zbS ?_ GE424.out)|exact HB.out)⟩⟩
  case round =>
   clear H'
   try clear c2
   try clear c2b0
   try clear c2b1
   try clear p2
   try clear c5
   try clear hcz6_0
   try clear hcz6_1
   try clear hfz6_0
   try clear hfz6_1
   obtain ⟨x4_1,x5_1,x425000_1,x425001_1,rfl,rfl,HA,HK1,BK423,BK424,HB⟩:=hrel
   cases gk with
   | zero=>exact absurd HA.out (by simp [q1ReadNumber.l0])
   | succ k1 =>
    have H:=HA.out
    clear HA
    simp only [q1ReadNumber.l0] at H
    have HC7:=Z0.mk H
    clear H
    go_upto_region 5 with (fail)
    go_cut [19] (fun v19 wc=>∃ (kq:Nat) (x19_6:Bool),v19=.bool x19_6∧Z0 (q1ReadNumber.j1 kq x4_1 x5_1 x19_6 a0_0 a0_1=some (r1,r2,r3))∧Z0 (kq≤k1)∧Z0 (wc.heap[gb423]?=some (.cells #[.string a0_0,.int .i64 a0_1] 69 (0,0)))∧Z0 (wc.heap[gb424]?=some (.cells #[.string x425000_1,.int .i64 x425001_1] 69 (0,0)))∧Z0 (Below w.heap.size w wc))
    case first =>
     have H:=HC7.out
     clear HC7
     by_cases c8 : x5_1 < (a0_0.size:Int)
     ·rw [if_pos c8] at H
      have c8b0 : decide (x5_1 < (a0_0.size:Int))=true:=decide_eq_true c8
      clear c8
      (first|rw [c8b0]|(simp only [i64_w,i32_w];rw [c8b0])|skip)
      have H':=Z0.mk H
      clear H
      have hnb9:=NB423_424.out
      have hnc9:=NB424_423.out
      have hcz10_0 : wr.cell? ⟨gb423,0,none⟩=some (.string a0_0):=(zkC BK423.out 0).trans rfl
      have hcz10_1 : wr.cell? ⟨gb423,1,none⟩=some (.int .i64 a0_1):=(zkC BK423.out 1).trans rfl
      have hfz10_0:=zkF BK423.out 0
      have hfz10_1:=zkF BK423.out 1
      go_wp2
      go_meet
      case rel=>exact ⟨_,(decide (x5_1 < 10)),(by first|rfl|(simp;done)|(simp [*];done)),H',⟨by have:=HK1.out;first|omega|exact Nat.le_refl _⟩,⟨by (with_reducible repeat (first|refine zkN ?_ _|refine zkD ?_|refine zkA ?_ _));exact BK423.out⟩,⟨by (with_reducible repeat (first|refine zkN ?_ _|refine zkD ?_|refine zkA ?_ _));exact BK424.out⟩,⟨by repeat (first|(with_reducible first|exact HB.out|apply zbA|apply zbN|apply zb1|refine zbS ?_ GE423.out|refine zbS ?_ GE424.out)|exact HB.out)⟩⟩
     rw [if_neg c8] at H
     have c8b0 : decide (x5_1 < (a0_0.size:Int))=false:=decide_eq_false c8
     clear c8
     (first|rw [c8b0]|(simp only [i64_w,i32_w];rw [c8b0])|skip)
     have H':=Z0.mk H
     clear H
     have hnb11:=NB423_424.out
     have hnc11:=NB424_423.out
     have hcz12_0 : wr.cell? ⟨gb423,0,none⟩=some (.string a0_0):=(zkC BK423.out 0).trans rfl
     have hcz12_1 : wr.cell? ⟨gb423,1,none⟩=some (.int .i64 a0_1):=(zkC BK423.out 1).trans rfl
     have hfz12_0:=zkF BK423.out 0
     have hfz12_1:=zkF BK423.out 1
     go_wp2
     go_meet
     case rel=>exact ⟨_,(false),(by first|rfl|(simp;done)|(simp [*];done)),H',⟨by have:=HK1.out;first|omega|exact Nat.le_refl _⟩,⟨by (with_reducible repeat (first|refine zkN ?_ _|refine zkD ?_|refine zkA ?_ _));exact BK423.out⟩,⟨by (with_reducible repeat (first|refine zkN ?_ _|refine zkD ?_|refine zkA ?_ _));exact BK424.out⟩,⟨by repeat (first|(with_reducible first|exact HB.out|apply zbA|apply zbN|apply zb1|refine zbS ?_ GE423.out|refine zbS ?_ GE424.out)|exact HB.out)⟩⟩
    case rest =>
     clear HC7
     try clear c1
     try clear c2
     try clear c2b0
     try clear c2b1
     try clear p2
     try clear c5
     try clear c7
     try clear c8
     try clear c8b0
     try clear c9
     try clear c11
     try clear hcz10_0
     try clear hcz10_1
     try clear hcz12_0
     try clear hcz12_1
     try clear hcz6_0
     try clear hcz6_1
     try clear hfz10_0
     try clear hfz10_1
     try clear hfz12_0
     try clear hfz12_1
     try clear hfz6_0
     try clear hfz6_1
     try clear p2
     obtain ⟨kq,x19_6,rfl,HA,HJ6,BK423,BK424,HB⟩:=hcut
     cases kq with
     | zero=>exact absurd HA.out (by simp [q1ReadNumber.j1])
     | succ kj6 =>
      have H:=HA.out
      clear HA
      simp only [q1ReadNumber.j1] at H
      by_cases c13 : x19_6=true
      ·subst c13
       have H1:(if 0≤x5_1 then (if x5_1 < (a0_0.size:Int) then (if x5_1=9 then (q1ReadNumber.j2 kj6 x4_1 x5_1 (bt a0_0 x5_1) (decide ((bt a0_0 x5_1) > 1)) a0_0 a0_1) else (q1ReadNumber.j2 kj6 x4_1 x5_1 (bt a0_0 x5_1) false a0_0 a0_1)) else (none)) else (none))=some (r1,r2,r3):=by rw [if_pos rfl] at H;exact H
       clear H
       have H:=H1
       clear H1
       by_cases c14 : 0≤x5_1
       ·rw [if_pos c14] at H
        have c14b0 : decide (0≤x5_1)=true:=decide_eq_true c14
        clear c14
        by_cases c15 : x5_1 < (a0_0.size:Int)
        ·rw [if_pos c15] at H
         have c15b0 : decide (x5_1 < (a0_0.size:Int))=true:=decide_eq_true c15
         clear c15
         have HC17:=Z0.mk H
         clear H
         have hnb18:=NB423_424.out
         have hnc18:=NB424_423.out
         have hcz19_0 : wc.cell? ⟨gb423,0,none⟩=some (.string a0_0):=(zkC BK423.out 0).trans rfl
         have hcz19_1 : wc.cell? ⟨gb423,1,none⟩=some (.int .i64 a0_1):=(zkC BK423.out 1).trans rfl
         have hfz19_0:=zkF BK423.out 0
         have hfz19_1:=zkF BK423.out 1
         have p16 : 0≤(x5_1:Int):=of_decide_eq_true (by first|(with_reducible assumption)|assumption)
         have q16 : x5_1 < (a0_0.size:Int):=of_decide_eq_true (by first|(with_reducible assumption)|assumption)
         have hx16:=bt_at a0_0 x5_1
         replace p16:=eq_true p16
         replace q16:=eq_true q16
         go_upto_region 8 with (fail)
         go_cut [31] (fun v31 wc=>∃ (kq:Nat) (x31_16:Bool),v31=.bool x31_16∧Z0 (q1ReadNumber.j2 kq x4_1 x5_1 (bt a0_0 x5_1) x31_16 a0_0 a0_1=some (r1,r2,r3))∧Z0 (kq≤kj6)∧Z0 (wc.heap[gb423]?=some (.cells #[.string a0_0,.int .i64 a0_1] 69 (0,0)))∧Z0 (wc.heap[gb424]?=some (.cells #[.string x425000_1,.int .i64 x425001_1] 69 (0,0)))∧Z0 (Below w.heap.size w wc))
         case first =>
          have H:=HC17.out
          clear HC17
          by_cases c20 : x5_1=9
          ·rw [if_pos c20] at H
           have c20b0:(x5_1 == 9)=true:=beq_iff_eq.mpr c20
           have c20b1:(x5_1 != 9)=false:=bne_eq_false_iff_eq.mpr c20
           clear c20
           (first|rw [c20b0]|(simp only [i64_w,i32_w];rw [c20b0])|skip)
           have H':=Z0.mk H
           clear H
           go_wp2
           go_meet
           case rel=>exact ⟨_,(decide ((bt a0_0 x5_1) > 1)),(by first|rfl|(simp;done)|(simp [*];done)),H',⟨by have:=HK1.out;have:=HJ6.out;first|omega|exact Nat.le_refl _⟩,⟨by (with_reducible repeat (first|refine zkN ?_ _|refine zkD ?_|refine zkA ?_ _));exact BK423.out⟩,⟨by (with_reducible repeat (first|refine zkN ?_ _|refine zkD ?_|refine zkA ?_ _));exact BK424.out⟩,⟨by repeat (first|(with_reducible first|exact HB.out|apply zbA|apply zbN|apply zb1|refine zbS ?_ GE423.out|refine zbS ?_ GE424.out)|exact HB.out)⟩⟩
          rw [if_neg c20] at H
          have c20b0:(x5_1 == 9)=false:=beq_eq_false_iff_ne.mpr c20
          have c20b1:(x5_1 != 9)=true:=bne_iff_ne.mpr c20
          (first|rw [c20b0]|(simp only [i64_w,i32_w];rw [c20b0])|skip)
          have H':=Z0.mk H
          clear H
          go_wp2
          go_meet
          case rel=>exact ⟨_,(false),(by first|rfl|(simp;done)|(simp [*];done)),H',⟨by have:=HK1.out;have:=HJ6.out;first|omega|exact Nat.le_refl _⟩,⟨by (with_reducible repeat (first|refine zkN ?_ _|refine zkD ?_|refine zkA ?_ _));exact BK423.out⟩,⟨by (with_reducible repeat (first|refine zkN ?_ _|refine zkD ?_|refine zkA ?_ _));exact BK424.out⟩,⟨by repeat (first|(with_reducible first|exact HB.out|apply zbA|apply zbN|apply zb1|refine zbS ?_ GE423.out|refine zbS ?_ GE424.out)|exact HB.out)⟩⟩
         case rest =>
          clear HC17
          try clear c1
          try clear p1
          try clear q1
          try clear hx1
          try clear c2
          try clear c2b0
          try clear c2b1
          try clear p2
          try clear c5
          try clear c7
          try clear c8
          try clear c8b0
          try clear c9
          try clear c11
          try clear c13
          try clear c14
          try clear c14b0
          try clear c15
          try clear c15b0
          try clear p16
          try clear q16
          try clear hx16
          try clear c18
          try clear c20
          try clear c20b0
          try clear c20b1
          try clear hcz10_0
          try clear hcz10_1
          try clear hcz12_0
          try clear hcz12_1
          try clear hcz19_0
          try clear hcz19_1
          try clear hcz6_0
          try clear hcz6_1
          try clear hfz10_0
          try clear hfz10_1
          try clear hfz12_0
          try clear hfz12_1
          try clear hfz19_0
          try clear hfz19_1
          try clear hfz6_0
          try clear hfz6_1
          try clear p16
          try clear p2
          try clear q16
          obtain ⟨kq,x31_16,rfl,HA,HJ16,BK423,BK424,HB⟩:=hcut
          cases kq with
          | zero=>exact absurd HA.out (by simp [q1ReadNumber.j2])
          | succ kj16 =>
           have H:=HA.out
           clear HA
           simp only [q1ReadNumber.j2] at H
           by_cases c21 : x31_16=true
           ·subst c21
            have H1:((q1fail.f 11).bind fun bt427=>(some (0,bt427.1,bt427.2)))=some (r1,r2,r3):=by rw [if_pos rfl] at H;exact H
            clear H
            have H:=H1
            clear H1
            replace H:=Option.bind_eq_some_iff.mp H
            obtain ⟨⟨t427,t428⟩,A220,H⟩:=H
            replace H:(some (0,t427,t428))=some (r1,r2,r3):=H
            have A22:=Z0.mk A220
            clear A220
            simp only [Option.some.injEq,Prod.mk.injEq] at H
            obtain ⟨rfl,rfl,rfl⟩:=H
            go_wp2_with (first|((with_reducible refine gate_callee (f:=107) rfl ?_);refine goesL_ (some 32) rfl rfl Try.func107 (by kernel_rfl) rfl #[.int .i64 11] rfl (by (try simp only [List.map_toArray,List.map_cons,List.map_nil]);first|done|rfl|(simp only [List.length_drop,List.length_take];rfl)) ?_;(with_reducible refine (q1fail.calls 11 t427 t428 _ A22.out).mono ?_);rintro e w23 ⟨rfl,hb⟩;refine ⟨_,rfl,?_⟩;have n0_:=Z0.mk (blk_below (g:=gb423) (o:=.cells #[.string a0_0,.int .i64 a0_1] 69 (0,0)) (by (with_reducible repeat (first|refine zkN ?_ _|refine zkD ?_|refine zkA ?_ _));exact BK423.out) hb);have n1_:=Z0.mk (blk_below (g:=gb424) (o:=.cells #[.string x425000_1,.int .i64 x425001_1] 69 (0,0)) (by (with_reducible repeat (first|refine zkN ?_ _|refine zkD ?_|refine zkA ?_ _));exact BK424.out) hb);have n2_:=Z0.mk (below_step (by repeat (first|(with_reducible first|exact HB.out|apply zbA|apply zbN|apply zb1|refine zbS ?_ GE423.out|refine zbS ?_ GE424.out)|exact HB.out)) hb);clear BK423;clear BK424;clear HB;have BK423:=n0_;have BK424:=n1_;have HB:=n2_;clear n0_ n1_ n2_;(try clear hb);(try clear hb2);(try clear hk);(try clear hi);have hnb24:=NB424_423.out;have hnc24:=NB423_424.out;have hcz25_0 : w23.cell? ⟨gb424,0,none⟩=some (.string x425000_1):=(zkC BK424.out 0).trans rfl;have hcz25_1 : w23.cell? ⟨gb424,1,none⟩=some (.int .i64 x425001_1):=(zkC BK424.out 1).trans rfl;have hfz25_0:=zkF BK424.out 0;have hfz25_1:=zkF BK424.out 1))
            refine bodyPost_ret (results_tc rfl _ _ gb424 69 #[.string t427,.int .i64 t428] (0,0) _ rfl (by (with_reducible repeat (first|refine zkN ?_ _|refine zkD ?_|refine zkA ?_ _));refine blk_put (cs:=#[.string t427,.int .i64 x425001_1]) ?_ 1 _ rfl;(with_reducible repeat (first|refine zkN ?_ _|refine zkD ?_|refine zkA ?_ _));refine blk_put (cs:=#[.string x425000_1,.int .i64 x425001_1]) ?_ 0 _ rfl;(with_reducible repeat (first|refine zkN ?_ _|refine zkD ?_|refine zkA ?_ _));exact BK424.out) Try.underlying69 rfl (by kernel_rfl)) rfl ?_
            exact ⟨by first|rfl|(simp [errW_none,errW_some] <;> rfl)|(simp [*,errW_none,errW_some] <;> rfl),by repeat (first|(with_reducible first|exact HB.out|apply zbA|apply zbN|apply zb1|refine zbS ?_ GE423.out|refine zbS ?_ GE424.out)|exact HB.out)⟩
           replace c21:=Bool.eq_false_iff.mpr c21
           subst c21
           have H1:(if 0≤(wrap64 (7 * x5_1)) then (if (bt a0_0 x5_1) < 128 then (if (bt a0_0 x5_1)=0 then (if x5_1 > 0 then ((q1fail.f 11).bind fun bt429=>(some (0,bt429.1,bt429.2))) else (if 0≤(wrap64 (x5_1 + 1)) then (if (wrap64 (x5_1 + 1))≤(a0_0.size:Int) then (some (IntKind.u64.wrap (x4_1 + (shl .u64 (IntKind.u64.wrap (Int.tmod (bt a0_0 x5_1) 128)) (wrap64 (7 * x5_1)))),a0_0.extract ((wrap64 (x5_1 + 1)):Int).toNat a0_0.size,0)) else (none)) else (none))) else (if 0≤(wrap64 (x5_1 + 1)) then (if (wrap64 (x5_1 + 1))≤(a0_0.size:Int) then (some (IntKind.u64.wrap (x4_1 + (shl .u64 (IntKind.u64.wrap (Int.tmod (bt a0_0 x5_1) 128)) (wrap64 (7 * x5_1)))),a0_0.extract ((wrap64 (x5_1 + 1)):Int).toNat a0_0.size,0)) else (none)) else (none))) else (q1ReadNumber.l0 kj16 (IntKind.u64.wrap (x4_1 + (shl .u64 (IntKind.u64.wrap (Int.tmod (bt a0_0 x5_1) 128)) (wrap64 (7 * x5_1))))) (wrap64 (x5_1 + 1)) a0_0 a0_1)) else (none))=some (r1,r2,r3):=by rw [if_neg (show ¬ (false=true) by decide)] at H;exact H
           clear H
           have H:=H1
           clear H1
           obtain ⟨ji26,hji26⟩:∃ j_:Int,(wrap64 (7 * x5_1))=j_:=⟨_,rfl⟩
           replace H:(if 0≤(ji26) then (if (bt a0_0 x5_1) < 128 then (if (bt a0_0 x5_1)=0 then (if x5_1 > 0 then ((q1fail.f 11).bind fun bt429=>(some (0,bt429.1,bt429.2))) else (if 0≤(wrap64 (x5_1 + 1)) then (if (wrap64 (x5_1 + 1))≤(a0_0.size:Int) then (some (IntKind.u64.wrap (x4_1 + (shl .u64 (IntKind.u64.wrap (Int.tmod (bt a0_0 x5_1) 128)) (ji26))),a0_0.extract ((wrap64 (x5_1 + 1)):Int).toNat a0_0.size,0)) else (none)) else (none))) else (if 0≤(wrap64 (x5_1 + 1)) then (if (wrap64 (x5_1 + 1))≤(a0_0.size:Int) then (some (IntKind.u64.wrap (x4_1 + (shl .u64 (IntKind.u64.wrap (Int.tmod (bt a0_0 x5_1) 128)) (ji26))),a0_0.extract ((wrap64 (x5_1 + 1)):Int).toNat a0_0.size,0)) else (none)) else (none))) else (q1ReadNumber.l0 kj16 (IntKind.u64.wrap (x4_1 + (shl .u64 (IntKind.u64.wrap (Int.tmod (bt a0_0 x5_1) 128)) (ji26)))) (wrap64 (x5_1 + 1)) a0_0 a0_1)) else (none))=some (r1,r2,r3):=by first|(rw [hji26] at H;exact H)|(simp only [hji26] at H ⊢;exact H)
           have hji26w:(IntKind.i64.wrap (7 * x5_1))=ji26:=(i64_w _).trans hji26
           by_cases c27 : 0≤(ji26)
           ·rw [if_pos c27] at H
            have c27b0:=eq_true c27
            have c27b1 : decide (0≤(ji26))=true:=decide_eq_true c27
            clear c27
            obtain ⟨ji28,hji28⟩:∃ j_:Int,(shl .u64 (IntKind.u64.wrap (Int.tmod (bt a0_0 x5_1) 128)) (ji26))=j_:=⟨_,rfl⟩
            replace H:(if (bt a0_0 x5_1) < 128 then (if (bt a0_0 x5_1)=0 then (if x5_1 > 0 then ((q1fail.f 11).bind fun bt429=>(some (0,bt429.1,bt429.2))) else (if 0≤(wrap64 (x5_1 + 1)) then (if (wrap64 (x5_1 + 1))≤(a0_0.size:Int) then (some (IntKind.u64.wrap (x4_1 + (ji28)),a0_0.extract ((wrap64 (x5_1 + 1)):Int).toNat a0_0.size,0)) else (none)) else (none))) else (if 0≤(wrap64 (x5_1 + 1)) then (if (wrap64 (x5_1 + 1))≤(a0_0.size:Int) then (some (IntKind.u64.wrap (x4_1 + (ji28)),a0_0.extract ((wrap64 (x5_1 + 1)):Int).toNat a0_0.size,0)) else (none)) else (none))) else (q1ReadNumber.l0 kj16 (IntKind.u64.wrap (x4_1 + (ji28))) (wrap64 (x5_1 + 1)) a0_0 a0_1))=some (r1,r2,r3):=by first|(rw [hji28] at H;exact H)|(simp only [hji28] at H ⊢;exact H)
            have hji28_:(IntKind.u64.wrap ((IntKind.u64.wrap (Int.tmod (bt a0_0 x5_1) 128)) * 2 ^ min (ji26).toNat 64))=ji28:=hji28
            have hji28z:(ji26)≤64→(IntKind.u64.wrap ((IntKind.u64.wrap (Int.tmod (bt a0_0 x5_1) 128)) * 2 ^ (ji26).toNat))=ji28:=shl_small hji28
            by_cases c29:(bt a0_0 x5_1) < 128
            ·rw [if_pos c29] at H
             have c29b0 : decide ((bt a0_0 x5_1) < 128)=true:=decide_eq_true c29
             clear c29
             by_cases c30:(bt a0_0 x5_1)=0
             ·rw [if_pos c30] at H
              have c30b0:((bt a0_0 x5_1) == 0)=true:=beq_iff_eq.mpr c30
              have c30b1:((bt a0_0 x5_1) != 0)=false:=bne_eq_false_iff_eq.mpr c30
              clear c30
              by_cases c31 : x5_1 > 0
              ·rw [if_pos c31] at H
               have c31b0 : decide (0 < x5_1)=true:=decide_eq_true c31
               clear c31
               replace H:=Option.bind_eq_some_iff.mp H
               obtain ⟨⟨t429,t430⟩,A320,H⟩:=H
               replace H:(some (0,t429,t430))=some (r1,r2,r3):=H
               have A32:=Z0.mk A320
               clear A320
               simp only [Option.some.injEq,Prod.mk.injEq] at H
               obtain ⟨rfl,rfl,rfl⟩:=H
               go_wp2_with (first|((with_reducible refine gate_callee (f:=107) rfl ?_);refine goesL_ (some 49) rfl rfl Try.func107 (by kernel_rfl) rfl #[.int .i64 11] rfl (by (try simp only [List.map_toArray,List.map_cons,List.map_nil]);first|done|rfl|(simp only [List.length_drop,List.length_take];rfl)) ?_;(with_reducible refine (q1fail.calls 11 t429 t430 _ A32.out).mono ?_);rintro e w33 ⟨rfl,hb⟩;refine ⟨_,rfl,?_⟩;have n0_:=Z0.mk (blk_below (g:=gb423) (o:=.cells #[.string a0_0,.int .i64 a0_1] 69 (0,0)) (by (with_reducible repeat (first|refine zkN ?_ _|refine zkD ?_|refine zkA ?_ _));exact BK423.out) hb);have n1_:=Z0.mk (blk_below (g:=gb424) (o:=.cells #[.string x425000_1,.int .i64 x425001_1] 69 (0,0)) (by (with_reducible repeat (first|refine zkN ?_ _|refine zkD ?_|refine zkA ?_ _));exact BK424.out) hb);have n2_:=Z0.mk (below_step (by repeat (first|(with_reducible first|exact HB.out|apply zbA|apply zbN|apply zb1|refine zbS ?_ GE423.out|refine zbS ?_ GE424.out)|exact HB.out)) hb);clear BK423;clear BK424;clear HB;have BK423:=n0_;have BK424:=n1_;have HB:=n2_;clear n0_ n1_ n2_;(try clear hb);(try clear hb2);(try clear hk);(try clear hi);have hnb34:=NB424_423.out;have hnc34:=NB423_424.out;have hcz35_0 : w33.cell? ⟨gb424,0,none⟩=some (.string x425000_1):=(zkC BK424.out 0).trans rfl;have hcz35_1 : w33.cell? ⟨gb424,1,none⟩=some (.int .i64 x425001_1):=(zkC BK424.out 1).trans rfl;have hfz35_0:=zkF BK424.out 0;have hfz35_1:=zkF BK424.out 1))
               refine bodyPost_ret (results_tc rfl _ _ gb424 69 #[.string t429,.int .i64 t430] (0,0) _ rfl (by (with_reducible repeat (first|refine zkN ?_ _|refine zkD ?_|refine zkA ?_ _));refine blk_put (cs:=#[.string t429,.int .i64 x425001_1]) ?_ 1 _ rfl;(with_reducible repeat (first|refine zkN ?_ _|refine zkD ?_|refine zkA ?_ _));refine blk_put (cs:=#[.string x425000_1,.int .i64 x425001_1]) ?_ 0 _ rfl;(with_reducible repeat (first|refine zkN ?_ _|refine zkD ?_|refine zkA ?_ _));exact BK424.out) Try.underlying69 rfl (by kernel_rfl)) rfl ?_
               exact ⟨by first|rfl|(simp [errW_none,errW_some] <;> rfl)|(simp only [← hji26,← hji28];first|rfl|(simp [errW_none,errW_some] <;> rfl))|(simp [*,errW_none,errW_some] <;> rfl),by repeat (first|(with_reducible first|exact HB.out|apply zbA|apply zbN|apply zb1|refine zbS ?_ GE423.out|refine zbS ?_ GE424.out)|exact HB.out)⟩
              rw [if_neg c31] at H
              have c31b0 : decide (0 < x5_1)=false:=decide_eq_false c31
              clear c31
              obtain ⟨ji36,hji36⟩:∃ j_:Int,(wrap64 (x5_1 + 1))=j_:=⟨_,rfl⟩
              replace H:(if 0≤(ji36) then (if (ji36)≤(a0_0.size:Int) then (some (IntKind.u64.wrap (x4_1 + (ji28)),a0_0.extract ((ji36):Int).toNat a0_0.size,0)) else (none)) else (none))=some (r1,r2,r3):=by first|(rw [hji36] at H;exact H)|(simp only [hji36] at H ⊢;exact H)
              have hji36w:(IntKind.i64.wrap (x5_1 + 1))=ji36:=(i64_w _).trans hji36
              by_cases c37 : 0≤(ji36)
              ·rw [if_pos c37] at H
               have c37b0:=eq_true c37
               have c37b1 : decide (0≤(ji36))=true:=decide_eq_true c37
               clear c37
               by_cases c38:(ji36)≤(a0_0.size:Int)
               ·rw [if_pos c38] at H
                have c38b0:=eq_true c38
                have c38b1 : decide ((ji36)≤(a0_0.size:Int))=true:=decide_eq_true c38
                clear c38
                simp only [Option.some.injEq,Prod.mk.injEq] at H
                obtain ⟨rfl,rfl,rfl⟩:=H
                try go_wp2
                have n0_:=Z0.mk (zkD BK423.out)
                have n1_:=Z0.mk (zkD BK424.out)
                have n2_:=Z0.mk (zb1 HB.out)
                clear BK423
                clear BK424
                clear HB
                have BK423:=n0_
                have BK424:=n1_
                have HB:=n2_
                clear n0_ n1_ n2_
                refine start_ (n:=9) (S:=fun w'=>w'.cell? ⟨gb423,0,none⟩=some (.string a0_0)∧w'.cell? ⟨gb423,1,none⟩=some (.int .i64 a0_1)) (ds:=[]) #[false,false,false,false,false,false,false,false,false] (by kernel_rfl) rfl rfl ⟨(zkC BK423.out 0).trans rfl,(zkC BK423.out 1).trans rfl⟩ (fun hHeld=>?_);refine with_tabW q1ReadNumber.tab14 q1ReadNumber.bits14 (fun HT_ HW_=>?_)
                generalize wc.drew=w39 at BK423 BK424 HB hHeld ⊢
                refine pure_ (i:=0) (N:=some 50) (v:=?_) (a':=?_) #[true,false,false,false,false,false,false,false,false] rfl rfl (any_of HT_.out (by kernel_rfl)) (fun _ _ _ h=>h) (Or.inl ⟨by rfl,?_⟩) ?_ ?_
                rotate_left
                ·intro w'
                 go_simp
                 with_reducible rfl
                rotate_left
                ·simp only [Act.put,List.setIfInBounds_toArray,List.set_cons_zero,List.set_cons_succ,i64_w,i32_w]
                 rfl
                refine pure_ (i:=1) (N:=some 51) (v:=?_) (a':=?_) #[true,true,false,false,false,false,false,false,false] rfl rfl (any_of HT_.out (by kernel_rfl)) (fun _ _ _ h=>h) (Or.inl ⟨by rfl,?_⟩) ?_ ?_
                rotate_left
                ·intro w'
                 go_simp
                 with_reducible rfl
                rotate_left
                ·simp only [Act.put,List.setIfInBounds_toArray,List.set_cons_zero,List.set_cons_succ,i64_w,i32_w]
                 rfl
                refine pure_ (i:=3) (N:=some 53) (v:=?_) (a':=?_) #[true,true,false,true,false,false,false,false,false] rfl rfl (any_of HT_.out (by kernel_rfl)) (fun _ _ _ h=>h) (Or.inl ⟨by rfl,?_⟩) ?_ ?_
                rotate_left
                ·intro w'
                 go_simp
                 with_reducible rfl
                rotate_left
                ·simp only [Act.put,List.setIfInBounds_toArray,List.set_cons_zero,List.set_cons_succ,i64_w,i32_w]
                 rfl
                refine pure_ (i:=4) (N:=some 54) (v:=?_) (a':=?_) #[true,true,false,true,true,false,false,false,false] rfl rfl (any_of HT_.out (by kernel_rfl)) (fun _ _ _ h=>h) (Or.inl ⟨by rfl,?_⟩) ?_ ?_
                rotate_left
                ·intro w'
                 go_simp
                 with_reducible rfl
                rotate_left
                ·simp only [Act.put,List.setIfInBounds_toArray,List.set_cons_zero,List.set_cons_succ,i64_w,i32_w]
                 rfl
                refine pure_ (i:=7) (N:=some 2) (v:=?_) (a':=?_) #[true,true,false,true,true,false,false,true,false] rfl rfl (any_of HT_.out (by kernel_rfl)) (fun _ _ _ h=>h) (Or.inl ⟨by rfl,?_⟩) ?_ ?_
                rotate_left
                ·intro w'
                 go_simp
                 with_reducible rfl
                rotate_left
                ·simp only [Act.put,List.setIfInBounds_toArray,List.set_cons_zero,List.set_cons_succ,i64_w,i32_w]
                 rfl
                refine take_ (i:=2) (N:=some 52) (v:=?_) (a':=?_) #[true,true,true,true,true,false,false,true,false] rfl rfl (take_ofW HT_.out HW_.out (by kernel_rfl)) (fun _ _ _ h=>h) (Or.inl ⟨by rfl,?_⟩) hHeld ?_ ?_
                rotate_left
                ·rintro w' ⟨s0,s1⟩
                 go_simp
                 with_reducible rfl
                rotate_left
                ·simp only [Act.put,List.setIfInBounds_toArray,List.set_cons_zero,List.set_cons_succ,i64_w,i32_w]
                 rfl
                refine pure_ (i:=5) (N:=some 55) (v:=?_) (a':=?_) #[true,true,true,true,true,true,false,true,false] rfl rfl (any_of HT_.out (by kernel_rfl)) (fun _ _ _ h=>h) (Or.inl ⟨by rfl,?_⟩) ?_ ?_
                rotate_left
                ·intro w'
                 go_simp
                 with_reducible rfl
                rotate_left
                ·simp only [Act.put,List.setIfInBounds_toArray,List.set_cons_zero,List.set_cons_succ,i64_w,i32_w]
                 rfl
                refine pure_ (i:=6) (N:=some 56) (v:=?_) (a':=?_) #[true,true,true,true,true,true,true,true,false] rfl rfl (any_of HT_.out (by kernel_rfl)) (fun _ _ _ h=>h) (Or.inl ⟨by rfl,?_⟩) ?_ ?_
                rotate_left
                ·intro w'
                 go_simp
                 with_reducible rfl
                rotate_left
                ·simp only [Act.put,List.setIfInBounds_toArray,List.set_cons_zero,List.set_cons_succ,i64_w,i32_w]
                 rfl
                refine one_ (i:=8) (N:=none) #[true,true,true,true,true,true,true,true,true] rfl rfl (one_of HT_.out (by kernel_rfl)) (by decide) (fun K hK=>?_)
                have hs40 : w39.cell? ⟨gb424,0,none⟩=some (.string x425000_1):=(zkC BK424.out 0).trans rfl
                have hfs40:=zkF BK424.out 0
                have hns40_0:=NB423_424.out
                have hms40_0:=NB424_423.out
                have hs41 : w39.cell? ⟨gb424,1,none⟩=some (.int .i64 x425001_1):=(zkC BK424.out 1).trans rfl
                have hfs41:=zkF BK424.out 1
                have hns41_0:=NB423_424.out
                have hms41_0:=NB424_423.out
                refine skip_ (w1:=?_) (by rfl) rfl ?_ ?_
                rotate_left
                ·go_simp
                 rfl
                refine hK.out _ _ ⟨((cell_far (p:=⟨gb424,_,none⟩) NB423_424.out _).trans (((cell_far (p:=⟨gb424,_,none⟩) NB423_424.out _).trans (hHeld.1)))),((cell_far (p:=⟨gb424,_,none⟩) NB423_424.out _).trans (((cell_far (p:=⟨gb424,_,none⟩) NB423_424.out _).trans (hHeld.2))))⟩ (fun hHeld=>?_)
                clear hK K
                refine done_ (done_of HT_.out (by kernel_rfl)) ?_
                try go_wp2
                refine bodyPost_ret (results_tc rfl _ _ gb424 69 #[.string (a0_0.extract ((ji36):Int).toNat a0_0.size),.int .i64 0] (0,0) _ rfl (by (with_reducible repeat (first|refine zkN ?_ _|refine zkD ?_|refine zkA ?_ _));refine blk_put (cs:=#[.string (a0_0.extract ((ji36):Int).toNat a0_0.size),.int .i64 x425001_1]) ?_ 1 _ rfl;(with_reducible repeat (first|refine zkN ?_ _|refine zkD ?_|refine zkA ?_ _));refine blk_put (cs:=#[.string x425000_1,.int .i64 x425001_1]) ?_ 0 _ rfl;(with_reducible repeat (first|refine zkN ?_ _|refine zkD ?_|refine zkA ?_ _));exact BK424.out) Try.underlying69 rfl (by kernel_rfl)) rfl ?_
                exact ⟨by first|rfl|(simp [errW_none,errW_some] <;> rfl)|(simp only [← hji26,← hji28,← hji36];first|rfl|(simp [errW_none,errW_some] <;> rfl))|(simp [*,errW_none,errW_some] <;> rfl),by repeat (first|(with_reducible first|exact HB.out|apply zbA|apply zbN|apply zb1|refine zbS ?_ GE423.out|refine zbS ?_ GE424.out)|exact HB.out)⟩
               rw [if_neg c38] at H
               exact absurd H (by simp)
              rw [if_neg c37] at H
              exact absurd H (by simp)
             rw [if_neg c30] at H
             have c30b0:((bt a0_0 x5_1) == 0)=false:=beq_eq_false_iff_ne.mpr c30
             have c30b1:((bt a0_0 x5_1) != 0)=true:=bne_iff_ne.mpr c30
             obtain ⟨ji42,hji42⟩:∃ j_:Int,(wrap64 (x5_1 + 1))=j_:=⟨_,rfl⟩
             replace H:(if 0≤(ji42) then (if (ji42)≤(a0_0.size:Int) then (some (IntKind.u64.wrap (x4_1 + (ji28)),a0_0.extract ((ji42):Int).toNat a0_0.size,0)) else (none)) else (none))=some (r1,r2,r3):=by first|(rw [hji42] at H;exact H)|(simp only [hji42] at H ⊢;exact H)
             have hji42w:(IntKind.i64.wrap (x5_1 + 1))=ji42:=(i64_w _).trans hji42
             by_cases c43 : 0≤(ji42)
             ·rw [if_pos c43] at H
              have c43b0:=eq_true c43
              have c43b1 : decide (0≤(ji42))=true:=decide_eq_true c43
              clear c43
              by_cases c44:(ji42)≤(a0_0.size:Int)
              ·rw [if_pos c44] at H
               have c44b0:=eq_true c44
               have c44b1 : decide ((ji42)≤(a0_0.size:Int))=true:=decide_eq_true c44
               clear c44
               simp only [Option.some.injEq,Prod.mk.injEq] at H
               obtain ⟨rfl,rfl,rfl⟩:=H
               try go_wp2
               have n0_:=Z0.mk (zkD BK423.out)
               have n1_:=Z0.mk (zkD BK424.out)
               have n2_:=Z0.mk (zb1 HB.out)
               clear BK423
               clear BK424
               clear HB
               have BK423:=n0_
               have BK424:=n1_
               have HB:=n2_
               clear n0_ n1_ n2_
               refine start_ (n:=9) (S:=fun w'=>w'.cell? ⟨gb423,0,none⟩=some (.string a0_0)∧w'.cell? ⟨gb423,1,none⟩=some (.int .i64 a0_1)) (ds:=[]) #[false,false,false,false,false,false,false,false,false] (by kernel_rfl) rfl rfl ⟨(zkC BK423.out 0).trans rfl,(zkC BK423.out 1).trans rfl⟩ (fun hHeld=>?_);refine with_tabW q1ReadNumber.tab14 q1ReadNumber.bits14 (fun HT_ HW_=>?_)
               generalize wc.drew=w45 at BK423 BK424 HB hHeld ⊢
               refine pure_ (i:=0) (N:=some 50) (v:=?_) (a':=?_) #[true,false,false,false,false,false,false,false,false] rfl rfl (any_of HT_.out (by kernel_rfl)) (fun _ _ _ h=>h) (Or.inl ⟨by rfl,?_⟩) ?_ ?_
               rotate_left
               ·intro w'
                go_simp
                with_reducible rfl
               rotate_left
               ·simp only [Act.put,List.setIfInBounds_toArray,List.set_cons_zero,List.set_cons_succ,i64_w,i32_w]
                rfl
               refine pure_ (i:=1) (N:=some 51) (v:=?_) (a':=?_) #[true,true,false,false,false,false,false,false,false] rfl rfl (any_of HT_.out (by kernel_rfl)) (fun _ _ _ h=>h) (Or.inl ⟨by rfl,?_⟩) ?_ ?_
               rotate_left
               ·intro w'
                go_simp
                with_reducible rfl
               rotate_left
               ·simp only [Act.put,List.setIfInBounds_toArray,List.set_cons_zero,List.set_cons_succ,i64_w,i32_w]
                rfl
               refine pure_ (i:=3) (N:=some 53) (v:=?_) (a':=?_) #[true,true,false,true,false,false,false,false,false] rfl rfl (any_of HT_.out (by kernel_rfl)) (fun _ _ _ h=>h) (Or.inl ⟨by rfl,?_⟩) ?_ ?_
               rotate_left
               ·intro w'
                go_simp
                with_reducible rfl
               rotate_left
               ·simp only [Act.put,List.setIfInBounds_toArray,List.set_cons_zero,List.set_cons_succ,i64_w,i32_w]
                rfl
               refine pure_ (i:=4) (N:=some 54) (v:=?_) (a':=?_) #[true,true,false,true,true,false,false,false,false] rfl rfl (any_of HT_.out (by kernel_rfl)) (fun _ _ _ h=>h) (Or.inl ⟨by rfl,?_⟩) ?_ ?_
               rotate_left
               ·intro w'
                go_simp
                with_reducible rfl
               rotate_left
               ·simp only [Act.put,List.setIfInBounds_toArray,List.set_cons_zero,List.set_cons_succ,i64_w,i32_w]
                rfl
               refine pure_ (i:=7) (N:=some 2) (v:=?_) (a':=?_) #[true,true,false,true,true,false,false,true,false] rfl rfl (any_of HT_.out (by kernel_rfl)) (fun _ _ _ h=>h) (Or.inl ⟨by rfl,?_⟩) ?_ ?_
               rotate_left
               ·intro w'
                go_simp
                with_reducible rfl
               rotate_left
               ·simp only [Act.put,List.setIfInBounds_toArray,List.set_cons_zero,List.set_cons_succ,i64_w,i32_w]
                rfl
               refine take_ (i:=2) (N:=some 52) (v:=?_) (a':=?_) #[true,true,true,true,true,false,false,true,false] rfl rfl (take_ofW HT_.out HW_.out (by kernel_rfl)) (fun _ _ _ h=>h) (Or.inl ⟨by rfl,?_⟩) hHeld ?_ ?_
               rotate_left
               ·rintro w' ⟨s0,s1⟩
                go_simp
                with_reducible rfl
               rotate_left
               ·simp only [Act.put,List.setIfInBounds_toArray,List.set_cons_zero,List.set_cons_succ,i64_w,i32_w]
                rfl
               refine pure_ (i:=5) (N:=some 55) (v:=?_) (a':=?_) #[true,true,true,true,true,true,false,true,false] rfl rfl (any_of HT_.out (by kernel_rfl)) (fun _ _ _ h=>h) (Or.inl ⟨by rfl,?_⟩) ?_ ?_
               rotate_left
               ·intro w'
                go_simp
                with_reducible rfl
               rotate_left
               ·simp only [Act.put,List.setIfInBounds_toArray,List.set_cons_zero,List.set_cons_succ,i64_w,i32_w]
                rfl
               refine pure_ (i:=6) (N:=some 56) (v:=?_) (a':=?_) #[true,true,true,true,true,true,true,true,false] rfl rfl (any_of HT_.out (by kernel_rfl)) (fun _ _ _ h=>h) (Or.inl ⟨by rfl,?_⟩) ?_ ?_
               rotate_left
               ·intro w'
                go_simp
                with_reducible rfl
               rotate_left
               ·simp only [Act.put,List.setIfInBounds_toArray,List.set_cons_zero,List.set_cons_succ,i64_w,i32_w]
                rfl
               refine one_ (i:=8) (N:=none) #[true,true,true,true,true,true,true,true,true] rfl rfl (one_of HT_.out (by kernel_rfl)) (by decide) (fun K hK=>?_)
               have hs46 : w45.cell? ⟨gb424,0,none⟩=some (.string x425000_1):=(zkC BK424.out 0).trans rfl
               have hfs46:=zkF BK424.out 0
               have hns46_0:=NB423_424.out
               have hms46_0:=NB424_423.out
               have hs47 : w45.cell? ⟨gb424,1,none⟩=some (.int .i64 x425001_1):=(zkC BK424.out 1).trans rfl
               have hfs47:=zkF BK424.out 1
               have hns47_0:=NB423_424.out
               have hms47_0:=NB424_423.out
               refine skip_ (w1:=?_) (by rfl) rfl ?_ ?_
               rotate_left
               ·go_simp
                rfl
               refine hK.out _ _ ⟨((cell_far (p:=⟨gb424,_,none⟩) NB423_424.out _).trans (((cell_far (p:=⟨gb424,_,none⟩) NB423_424.out _).trans (hHeld.1)))),((cell_far (p:=⟨gb424,_,none⟩) NB423_424.out _).trans (((cell_far (p:=⟨gb424,_,none⟩) NB423_424.out _).trans (hHeld.2))))⟩ (fun hHeld=>?_)
               clear hK K
               refine done_ (done_of HT_.out (by kernel_rfl)) ?_
               try go_wp2
               refine bodyPost_ret (results_tc rfl _ _ gb424 69 #[.string (a0_0.extract ((ji42):Int).toNat a0_0.size),.int .i64 0] (0,0) _ rfl (by (with_reducible repeat (first|refine zkN ?_ _|refine zkD ?_|refine zkA ?_ _));refine blk_put (cs:=#[.string (a0_0.extract ((ji42):Int).toNat a0_0.size),.int .i64 x425001_1]) ?_ 1 _ rfl;(with_reducible repeat (first|refine zkN ?_ _|refine zkD ?_|refine zkA ?_ _));refine blk_put (cs:=#[.string x425000_1,.int .i64 x425001_1]) ?_ 0 _ rfl;(with_reducible repeat (first|refine zkN ?_ _|refine zkD ?_|refine zkA ?_ _));exact BK424.out) Try.underlying69 rfl (by kernel_rfl)) rfl ?_
               exact ⟨by first|rfl|(simp [errW_none,errW_some] <;> rfl)|(simp only [← hji26,← hji28,← hji42];first|rfl|(simp [errW_none,errW_some] <;> rfl))|(simp [*,errW_none,errW_some] <;> rfl),by repeat (first|(with_reducible first|exact HB.out|apply zbA|apply zbN|apply zb1|refine zbS ?_ GE423.out|refine zbS ?_ GE424.out)|exact HB.out)⟩
              rw [if_neg c44] at H
              exact absurd H (by simp)
             rw [if_neg c43] at H
             exact absurd H (by simp)
            rw [if_neg c29] at H
            have c29b0 : decide ((bt a0_0 x5_1) < 128)=false:=decide_eq_false c29
            clear c29
            have H':=Z0.mk H
            clear H
            go_wp2
            go_roundg kj16
            case measure=>have:=HK1.out;have:=HJ6.out;have:=HJ16.out;omega
            case rel=>exact ⟨(IntKind.u64.wrap (x4_1 + (ji28))),(wrap64 (x5_1 + 1)),(x425000_1),(x425001_1),(by first|rfl|(simp;done)|(simp only [← hji28] <;> (first|rfl|simp))|(simp [*];done)),(by first|rfl|(simp;done)|(simp [*];done)),H',⟨by have:=HK1.out;have:=HJ6.out;have:=HJ16.out;omega⟩,⟨by (with_reducible repeat (first|refine zkN ?_ _|refine zkD ?_|refine zkA ?_ _));exact BK423.out⟩,⟨by (with_reducible repeat (first|refine zkN ?_ _|refine zkD ?_|refine zkA ?_ _));exact BK424.out⟩,⟨by repeat (first|(with_reducible first|exact HB.out|apply zbA|apply zbN|apply zb1|refine zbS ?_ GE423.out|refine zbS ?_ GE424.out)|exact HB.out)⟩⟩
           rw [if_neg c27] at H
           exact absurd H (by simp)
        rw [if_neg c15] at H
        exact absurd H (by simp)
       rw [if_neg c14] at H
       exact absurd H (by simp)
      replace c13:=Bool.eq_false_iff.mpr c13
      subst c13
      have H1:((q1fail.f 11).bind fun bt425=>(some (0,bt425.1,bt425.2)))=some (r1,r2,r3):=by rw [if_neg (show ¬ (false=true) by decide)] at H;exact H
      clear H
      have H:=H1
      clear H1
      replace H:=Option.bind_eq_some_iff.mp H
      obtain ⟨⟨t425,t426⟩,A480,H⟩:=H
      replace H:(some (0,t425,t426))=some (r1,r2,r3):=H
      have A48:=Z0.mk A480
      clear A480
      simp only [Option.some.injEq,Prod.mk.injEq] at H
      obtain ⟨rfl,rfl,rfl⟩:=H
      go_wp2_with (first|((with_reducible refine gate_callee (f:=107) rfl ?_);refine goesL_ (some 57) rfl rfl Try.func107 (by kernel_rfl) rfl #[.int .i64 11] rfl (by (try simp only [List.map_toArray,List.map_cons,List.map_nil]);first|done|rfl|(simp only [List.length_drop,List.length_take];rfl)) ?_;(with_reducible refine (q1fail.calls 11 t425 t426 _ A48.out).mono ?_);rintro e w49 ⟨rfl,hb⟩;refine ⟨_,rfl,?_⟩;have n0_:=Z0.mk (blk_below (g:=gb423) (o:=.cells #[.string a0_0,.int .i64 a0_1] 69 (0,0)) (by (with_reducible repeat (first|refine zkN ?_ _|refine zkD ?_|refine zkA ?_ _));exact BK423.out) hb);have n1_:=Z0.mk (blk_below (g:=gb424) (o:=.cells #[.string x425000_1,.int .i64 x425001_1] 69 (0,0)) (by (with_reducible repeat (first|refine zkN ?_ _|refine zkD ?_|refine zkA ?_ _));exact BK424.out) hb);have n2_:=Z0.mk (below_step (by repeat (first|(with_reducible first|exact HB.out|apply zbA|apply zbN|apply zb1|refine zbS ?_ GE423.out|refine zbS ?_ GE424.out)|exact HB.out)) hb);clear BK423;clear BK424;clear HB;have BK423:=n0_;have BK424:=n1_;have HB:=n2_;clear n0_ n1_ n2_;(try clear hb);(try clear hb2);(try clear hk);(try clear hi);have hnb50:=NB424_423.out;have hnc50:=NB423_424.out;have hcz51_0 : w49.cell? ⟨gb424,0,none⟩=some (.string x425000_1):=(zkC BK424.out 0).trans rfl;have hcz51_1 : w49.cell? ⟨gb424,1,none⟩=some (.int .i64 x425001_1):=(zkC BK424.out 1).trans rfl;have hfz51_0:=zkF BK424.out 0;have hfz51_1:=zkF BK424.out 1))
      refine bodyPost_ret (results_tc rfl _ _ gb424 69 #[.string t425,.int .i64 t426] (0,0) _ rfl (by (with_reducible repeat (first|refine zkN ?_ _|refine zkD ?_|refine zkA ?_ _));refine blk_put (cs:=#[.string t425,.int .i64 x425001_1]) ?_ 1 _ rfl;(with_reducible repeat (first|refine zkN ?_ _|refine zkD ?_|refine zkA ?_ _));refine blk_put (cs:=#[.string x425000_1,.int .i64 x425001_1]) ?_ 0 _ rfl;(with_reducible repeat (first|refine zkN ?_ _|refine zkD ?_|refine zkA ?_ _));exact BK424.out) Try.underlying69 rfl (by kernel_rfl)) rfl ?_
      exact ⟨by first|rfl|(simp [errW_none,errW_some] <;> rfl)|(simp [*,errW_none,errW_some] <;> rfl),by repeat (first|(with_reducible first|exact HB.out|apply zbA|apply zbN|apply zb1|refine zbS ?_ GE423.out|refine zbS ?_ GE424.out)|exact HB.out)⟩
 rw [if_neg c2] at H
 have c2b0:(a0_1 == 0)=false:=beq_eq_false_iff_ne.mpr c2
 have c2b1:(a0_1 != 0)=true:=bne_iff_ne.mpr c2
 simp only [Option.some.injEq,Prod.mk.injEq] at H
 obtain ⟨rfl,rfl,rfl⟩:=H
 go_enter Try.func70,Try.ntmps70
 try go_wp2_with (first|((with_reducible refine gate_dst (N:=1) rfl ?_);refine box_event ?hg (N:=1) ?hd (cs:=#[.string a0_0,.int .i64 a0_1]) (t:=69) ?hr ?_;(case hd=>rfl);(case hg=>rfl);(case hr=>first|(go_simp;done)|(go_simp;rfl));intro gb423 hg w52 hbox hb;have n0_:=Z0.mk (below_step (by repeat (first|(with_reducible first|exact HB.out|apply zbA|apply zbN|apply zb1)|exact HB.out)) hb);have n1_:=Z0.mk (hbox);have n2_:=Z0.mk ((by rw [hg];exact (below_size (by repeat (first|(with_reducible first|exact HB.out|apply zbA|apply zbN|apply zb1)|exact HB.out))) : w.heap.size≤gb423));have n3_:=Z0.mk ((by rw [hg];exact (below_size (by repeat (first|(with_reducible first|exact HB.out|apply zbA|apply zbN|apply zb1)|exact HB.out))) : w.heap.size≤gb423));clear HB;have HB:=n0_;have BK423:=n1_;have GW423:=n2_;have GE423:=n3_;clear n0_ n1_ n2_ n3_;clear hb hbox hg)|((with_reducible refine gate_dst (N:=3) rfl ?_);refine box_event ?hg (N:=3) ?hd (cs:=#[.string (⟨#[]⟩:ByteArray),.int .i64 0]) (t:=69) ?hr ?_;(case hd=>rfl);(case hg=>rfl);(case hr=>first|(go_simp;done)|(go_simp;rfl));intro gb424 hg w53 hbox hb;have n0_:=Z0.mk (blk_below (g:=gb423) (o:=.cells #[.string a0_0,.int .i64 a0_1] 69 (0,0)) (by (with_reducible repeat (first|refine zkN ?_ _|refine zkD ?_|refine zkA ?_ _));exact BK423.out) hb);have n1_:=Z0.mk (below_step (by repeat (first|(with_reducible first|exact HB.out|apply zbA|apply zbN|apply zb1|refine zbS ?_ GE423.out)|exact HB.out)) hb);have n2_:=Z0.mk (hbox);have n3_:=Z0.mk ((by rw [hg];exact (below_size (by repeat (first|(with_reducible first|exact HB.out|apply zbA|apply zbN|apply zb1|refine zbS ?_ GE423.out)|exact HB.out))) : w.heap.size≤gb424));have n4_:=Z0.mk ((by rw [hg];exact (below_size (by repeat (first|(with_reducible first|exact HB.out|apply zbA|apply zbN|apply zb1|refine zbS ?_ GE423.out)|exact HB.out))) : w.heap.size≤gb424));have n5_:=Z0.mk ((by rw [hg];exact Nat.ne_of_lt (blk_lt (g:=gb423) (o:=.cells #[.string a0_0,.int .i64 a0_1] 69 (0,0)) (by (with_reducible repeat (first|refine zkN ?_ _|refine zkD ?_|refine zkA ?_ _));exact BK423.out)) : gb423 ≠ gb424));have n6_:=Z0.mk ((by rw [hg];exact Nat.ne_of_gt (blk_lt (g:=gb423) (o:=.cells #[.string a0_0,.int .i64 a0_1] 69 (0,0)) (by (with_reducible repeat (first|refine zkN ?_ _|refine zkD ?_|refine zkA ?_ _));exact BK423.out)) : gb424 ≠ gb423));clear BK423;clear HB;have BK423:=n0_;have HB:=n1_;have BK424:=n2_;have GW424:=n3_;have GE424:=n4_;have NB423_424:=n5_;have NB424_423:=n6_;clear n0_ n1_ n2_ n3_ n4_ n5_ n6_;clear hb hbox hg;have hnb54:=NB423_424.out;have hnc54:=NB424_423.out;have hcz55_0 : w53.cell? ⟨gb423,0,none⟩=some (.string a0_0):=(zkC BK423.out 0).trans rfl;have hcz55_1 : w53.cell? ⟨gb423,1,none⟩=some (.int .i64 a0_1):=(zkC BK423.out 1).trans rfl;have hfz55_0:=zkF BK423.out 0;have hfz55_1:=zkF BK423.out 1))
 have n0_:=Z0.mk (zkD BK423.out)
 have n1_:=Z0.mk (zkD BK424.out)
 have n2_:=Z0.mk (zb1 HB.out)
 clear BK423
 clear BK424
 clear HB
 have BK423:=n0_
 have BK424:=n1_
 have HB:=n2_
 clear n0_ n1_ n2_
 refine start_ (n:=3) (S:=fun w'=>w'.cell? ⟨gb423,0,none⟩=some (.string a0_0)∧w'.cell? ⟨gb423,1,none⟩=some (.int .i64 a0_1)) (ds:=[]) #[false,false,false] (by kernel_rfl) rfl rfl ⟨(zkC BK423.out 0).trans rfl,(zkC BK423.out 1).trans rfl⟩ (fun hHeld=>?_)
 generalize w53.drew=w56 at BK423 BK424 HB hHeld ⊢
 refine pure_ (i:=1) (N:=some 2) (v:=?_) (a':=?_) #[false,true,false] rfl rfl (by kernel_rfl) (fun _ _ _ h=>h) (Or.inl ⟨by rfl,?_⟩) ?_ ?_
 rotate_left
 ·intro w'
  go_simp
  with_reducible rfl
 rotate_left
 ·simp only [Act.put,List.setIfInBounds_toArray,List.set_cons_zero,List.set_cons_succ,i64_w,i32_w]
  rfl
 refine take_ (i:=0) (N:=some 10) (v:=?_) (a':=?_) #[true,true,false] rfl rfl (by kernel_rfl) (fun _ _ _ h=>h) (Or.inl ⟨by rfl,?_⟩) hHeld ?_ ?_
 rotate_left
 ·rintro w' ⟨s0,s1⟩
  go_simp
  with_reducible rfl
 rotate_left
 ·simp only [Act.put,List.setIfInBounds_toArray,List.set_cons_zero,List.set_cons_succ,i64_w,i32_w]
  rfl
 refine one_ (i:=2) (N:=none) #[true,true,true] rfl rfl (by kernel_rfl) (by decide) (fun K hK=>?_)
 have hs57 : w56.cell? ⟨gb424,0,none⟩=some (.string (⟨#[]⟩:ByteArray)):=(zkC BK424.out 0).trans rfl
 have hfs57:=zkF BK424.out 0
 have hns57_0:=NB423_424.out
 have hms57_0:=NB424_423.out
 have hs58 : w56.cell? ⟨gb424,1,none⟩=some (.int .i64 0):=(zkC BK424.out 1).trans rfl
 have hfs58:=zkF BK424.out 1
 have hns58_0:=NB423_424.out
 have hms58_0:=NB424_423.out
 refine skip_ (w1:=?_) (by rfl) rfl ?_ ?_
 rotate_left
 ·go_simp
  rfl
 refine hK.out _ _ ⟨((cell_far (p:=⟨gb424,_,none⟩) NB423_424.out _).trans (((cell_far (p:=⟨gb424,_,none⟩) NB423_424.out _).trans (hHeld.1)))),((cell_far (p:=⟨gb424,_,none⟩) NB423_424.out _).trans (((cell_far (p:=⟨gb424,_,none⟩) NB423_424.out _).trans (hHeld.2))))⟩ (fun hHeld=>?_)
 clear hK K
 refine done_ (by kernel_rfl) ?_
 try go_wp2
 refine bodyPost_ret (results_tc rfl _ _ gb424 69 #[.string a0_0,.int .i64 a0_1] (0,0) _ rfl (by (with_reducible repeat (first|refine zkN ?_ _|refine zkD ?_|refine zkA ?_ _));refine blk_put (cs:=#[.string a0_0,.int .i64 0]) ?_ 1 _ rfl;(with_reducible repeat (first|refine zkN ?_ _|refine zkD ?_|refine zkA ?_ _));refine blk_put (cs:=#[.string (⟨#[]⟩:ByteArray),.int .i64 0]) ?_ 0 _ rfl;(with_reducible repeat (first|refine zkN ?_ _|refine zkD ?_|refine zkA ?_ _));exact BK424.out) Try.underlying69 rfl (by kernel_rfl)) rfl ?_
 exact ⟨by first|rfl|(simp [errW_none,errW_some] <;> rfl)|(simp [*,errW_none,errW_some] <;> rfl),by repeat (first|(with_reducible first|exact HB.out|apply zbA|apply zbN|apply zb1|refine zbS ?_ GE423.out|refine zbS ?_ GE424.out)|exact HB.out)⟩
end Go.Proofs.Ytegefemkmdlmaaa.P
