import Derived.Test.YtegefemkmdlmaaaF0
import Derived.Test.YtegefemkmdlmaaaF96
namespace Go.Proofs.Ytegefemkmdlmaaa.P
open Go.RowKit Go.Proofs.YtegefemkmdlmaaaW.PrintWords Go.Proofs.YtegefemkmdlmaaaW.PrintLast Go.Proofs.YtegefemkmdlmaaaW.PrintMore
attribute [local go_sem] max2_int min2_int max_two min_two max_three min_three max_four min_four
set_option linter.unusedVariables false
set_option linter.unusedSimpArgs false
def q5Join.l0:Nat→List (S103)→List (S103)→Int→Option ((List (S103)))
 | 0,_,_,_=>none
 | k + 1,x0,x3,x4=>if x4 < (x0.length:Int) then (if 0≤x4 then ((q5clip.f k ((rd_T103 x0 x4).f0) ((rd_T103 x0 x4).f1)).bind fun bt239=>(if bt239.2=0 then (q5Join.l0 k x0 x3 (wrap64 (x4 + 1))) else (if (x3.length:Int) > 0 then (if 0≤(wrap64 ((x3.length:Int) - 1)) then (if (wrap64 ((x3.length:Int) - 1)) < (x3.length:Int) then (if (wrap64 (((rd_T103 x3 (wrap64 ((x3.length:Int) - 1))).f0) + ((rd_T103 x3 (wrap64 ((x3.length:Int) - 1))).f1)))=bt239.1 then (q5Join.l0 k x0 (x3.set ((wrap64 ((x3.length:Int) - 1)):Int).toNat (⟨(rd_T103 x3 (wrap64 ((x3.length:Int) - 1))).f0,wrap64 (((rd_T103 x3 (wrap64 ((x3.length:Int) - 1))).f1) + bt239.2)⟩:S103)) (wrap64 (x4 + 1))) else (if x3.length < 8796093022208 then (q5Join.l0 k x0 (x3++[(⟨bt239.1,bt239.2⟩:S103)]) (wrap64 (x4 + 1))) else (none))) else (none)) else (none)) else (if x3.length < 8796093022208 then (q5Join.l0 k x0 (x3++[(⟨bt239.1,bt239.2⟩:S103)]) (wrap64 (x4 + 1))) else (none))))) else (none)) else (some x3)
def q5Join.f (k:Nat) (l0:List (S103)):Option ((List (S103))):=q5Join.l0 k l0 (([]:List (S103))) 0
theorem q5Join.mono_l:∀ k,(∀ y0 y1 y2,LeO (q5Join.l0 k y0 y1 y2) (q5Join.l0 (k + 1) y0 y1 y2))
 | 0=>fun _ _ _ r h=>by simp [q5Join.l0] at h
 | k + 1=>by
  have ih0:=q5Join.mono_l k
  ·intro y0 y1 y2
   unfold q5Join.l0
   repeat' first
   | (with_reducible exact ih0 _ _ _)
   | (with_reducible exact q5clip.mono _ _ _)
   | (with_reducible exact LeO.refl _)
   | (with_reducible exact LeO.none _)
   | (with_reducible refine LeO.ite ?_ ?_)
   | (with_reducible refine LeO.bind ?_ (fun _=>?_))
   | exact ih0 _ _ _
   | exact q5clip.mono _ _ _
   | exact LeO.none _
   | refine LeO.ite ?_ ?_
   | refine LeO.bind ?_ (fun _=>?_)
theorem q5Join.mono:∀ a0 k,LeO (q5Join.f k a0) (q5Join.f (k + 1) a0):=by
 intro a0 k
 have ih0:=q5Join.mono_l k
 unfold q5Join.f
 repeat' first
   | (with_reducible exact ih0 _ _ _)
   | (with_reducible exact q5clip.mono _ _ _)
   | (with_reducible exact LeO.refl _)
   | (with_reducible exact LeO.none _)
   | (with_reducible refine LeO.ite ?_ ?_)
   | (with_reducible refine LeO.bind ?_ (fun _=>?_))
   | exact ih0 _ _ _
   | exact q5clip.mono _ _ _
   | exact LeO.none _
   | refine LeO.ite ?_ ?_
   | refine LeO.bind ?_ (fun _=>?_)
def q5Join.T8:Bool×List (List Nat×List Nat):=(true,[([],[]),([0],[0]),([1],[1]),([2],[2]),([2],[2]),([4,2],[2,4]),([3,5,2],[2,3,5]),([6,2],[2,6]),([7,2],[2,7]),([2],[2]),([2],[2]),([10,2],[2,10]),([9,11,2],[2,9,11]),([12,2],[2,12]),([13,2],[2,13]),([8,14,2],[2,8,14]),([2],[2]),([16,2],[2,16]),([15,17,2],[2,15,17]),([2,18],[2,18])])
def q5Join.B8:List Nat:=[0,1,3,7,7,23,63,127,255,7,7,1031,3591,7687,15879,32767,7,65543,262143,524287]
theorem q5Join.tab8 : rtab .any (opsOf Try.f39 8)=q5Join.T8:=by kernel_rfl
theorem q5Join.bits8 : waitsOk q5Join.T8.2 q5Join.B8=true:=by kernel_rfl
def q5Join.T9:Bool×List (List Nat×List Nat):=(true,[([],[]),([],[]),([1],[1]),([],[]),([],[]),([4],[4]),([3,5],[3,5]),([6],[6]),([7],[7]),([],[]),([9],[9]),([8,10],[8,10]),([0,2,0,1,2,3,4,5,6,7,8,9,10,11],[0,2]),([12,0,1,2,3,4,5,6,7,8,9,10,11],[12]),([13,11,0,1,2,3,4,5,6,7,8,9,10,11],[11,13])])
def q5Join.B9:List Nat:=[0,0,2,0,0,16,56,120,248,0,512,2040,4095,8191,16383]
theorem q5Join.tab9 : rtab .any (opsOf Try.f39 9)=q5Join.T9:=by kernel_rfl
theorem q5Join.bits9 : waitsOk q5Join.T9.2 q5Join.B9=true:=by kernel_rfl
set_option maxHeartbeats 8000000 in
set_option maxRecDepth 100000 in
theorem q5Join.calls (k:Nat) (A0:Option Addr) (c0:Nat) (l0:List (S103)) (r:List (S103)) (w:World) (hr0:Kd.C k103 w A0 l0.length l0) (hc0 : l0.length≤c0) (h : q5Join.f k l0=some r) :
  Calls Try.prog 39 #[.slice A0 l0.length c0] w fun e w'=>∃ v0_:Value,e=.returned (v0_)∧Kd.R k103 103 w' w.heap.size (fun _=>True) v0_ r∧Below w.heap.size w w':=by
 have hu103:=Try.underlying103
 have HR0:=Z0.mk hr0
 have HC0:=Z0.mk hc0
 clear hr0 hc0
 have HB:=Z0.mk (Below.refl w.heap.size w)
 have H:(q5Join.l0 k l0 (([]:List (S103))) 0)=some r:=h
 clear h
 obtain ⟨y235,hy235⟩:∃ y_:List (S103),y_=(([]:List (S103))):=⟨_,rfl⟩
 replace H:(q5Join.l0 k l0 y235 0)=some r:=by first|(rw [hy235];with_reducible exact H)|(have H2_:=(Option.bind_some _ _).symm.trans H;rw [hy235];with_reducible exact H2_)|(have H2_:=(Option.bind_some _ _).symm.trans H;with_reducible exact H2_)|with_reducible exact H|(rw [hy235];exact H)|exact H
 have Ny235:=Z0.mk hy235
 clear hy235
 have H':=Z0.mk H
 clear H
 go_enter Try.func39,Try.ntmps39
 go_wp2_with (first|((with_reducible refine gate_dst (N:=7) rfl ?_);refine Kd.R_lit k103 _ 103 ?hg (N:=7) ?hd (xs:=([]:List (S103))) (inner:=[]) (ok:=fun _=>True) (okp:=fun _=>True) ?hr ?hp (fun _ hk=>hk) trivial (Below.refl _ _) (Nat.le_refl _) (by simp) ?_;(case hd=>rfl);(case hg=>rfl);(case hr=>first|(go_simp;done)|(go_simp;rfl));(case hp=>exact (Reps.none _ _));intro v236 w2 ho3 hb hg_ hnew_;clear hg_ hnew_;(first|rw [← Ny235.out] at ho3|(simp only [Int.reduceToNat] at ho3;rw [← Ny235.out] at ho3));have n0_:=Z0.mk (Kd.R_lower ho3 (below_size (by repeat (first|(with_reducible first|exact HB.out|apply zbA|apply zbN|apply zb1)|exact HB.out))));have n1_:=Z0.mk (below_step (by repeat (first|(with_reducible first|exact HB.out|apply zbA|apply zbN|apply zb1)|exact HB.out)) hb);clear HB;have HO237:=n0_;have HB:=n1_;clear n0_ n1_;clear hb ho3))
 go_loopg [3,4] k (fun kq v3 v4 w'=>∃ (x3_1:List (S103)) (x4_1:Int),v4=.int .i64 x4_1∧Z0 (q5Join.l0 kq l0 x3_1 x4_1=some r)∧Z0 (kq≤k)∧Z0 (Kd.R k103 103 w' w.heap.size (fun _=>True) v3 x3_1)∧Z0 (Below w.heap.size w w'))
 case atStart=>exact ⟨(y235),(0),(by first|rfl|(simp;done)|(simp [*];done)),H',⟨Nat.le_refl _⟩,⟨by (with_reducible repeat (first|apply Kd.R_alloc|apply Kd.R_drewN|apply Kd.R_drew));exact HO237.out⟩,⟨by repeat (first|(with_reducible first|exact HB.out|apply zbA|apply zbN|apply zb1)|exact HB.out)⟩⟩
 case round =>
  clear H'
  try clear p2
  try clear c3
  obtain ⟨x3_1,x4_1,rfl,HA,HK1,HO_3,HB⟩:=hrel
  cases gk with
  | zero=>exact absurd HA.out (by simp [q5Join.l0])
  | succ k1 =>
   have H:=HA.out
   clear HA
   simp only [q5Join.l0] at H
   by_cases c4 : x4_1 < (l0.length:Int)
   ·rw [if_pos c4] at H
    have c4b0 : decide (x4_1 < (l0.length:Int))=true:=decide_eq_true c4
    clear c4
    by_cases c5 : 0≤x4_1
    ·rw [if_pos c5] at H
     have c5b0 : decide (0≤x4_1)=true:=decide_eq_true c5
     clear c5
     replace H:=Option.bind_eq_some_iff.mp H
     obtain ⟨⟨t239,t240⟩,A60,H⟩:=H
     replace H:(if t240=0 then (q5Join.l0 k1 l0 x3_1 (wrap64 (x4_1 + 1))) else (if (x3_1.length:Int) > 0 then (if 0≤(wrap64 ((x3_1.length:Int) - 1)) then (if (wrap64 ((x3_1.length:Int) - 1)) < (x3_1.length:Int) then (if (wrap64 (((rd_T103 x3_1 (wrap64 ((x3_1.length:Int) - 1))).f0) + ((rd_T103 x3_1 (wrap64 ((x3_1.length:Int) - 1))).f1)))=t239 then (q5Join.l0 k1 l0 (x3_1.set ((wrap64 ((x3_1.length:Int) - 1)):Int).toNat (⟨(rd_T103 x3_1 (wrap64 ((x3_1.length:Int) - 1))).f0,wrap64 (((rd_T103 x3_1 (wrap64 ((x3_1.length:Int) - 1))).f1) + t240)⟩:S103)) (wrap64 (x4_1 + 1))) else (if x3_1.length < 8796093022208 then (q5Join.l0 k1 l0 (x3_1++[(⟨t239,t240⟩:S103)]) (wrap64 (x4_1 + 1))) else (none))) else (none)) else (none)) else (if x3_1.length < 8796093022208 then (q5Join.l0 k1 l0 (x3_1++[(⟨t239,t240⟩:S103)]) (wrap64 (x4_1 + 1))) else (none))))=some r:=H
     have A6:=Z0.mk A60
     clear A60
     by_cases c7 : t240=0
     ·rw [if_pos c7] at H
      have c7b0:(t240 == 0)=true:=beq_iff_eq.mpr c7
      have c7b1:(t240 != 0)=false:=bne_eq_false_iff_eq.mpr c7
      clear c7
      have H':=Z0.mk H
      clear H
      have p238 : 0≤(x4_1:Int):=of_decide_eq_true (by first|(with_reducible assumption)|assumption)
      have q238 : x4_1 < (l0.length:Int):=of_decide_eq_true (by first|(with_reducible assumption)|assumption)
      obtain ⟨ad238,e238,hx238_0,hx238_1⟩:=at_T103 HR0.out x4_1 p238 q238
      cases e238
      replace hx238_0:=(HB.out.cell (World.block_lt_of_cell? w _ hx238_0)).trans hx238_0
      replace hx238_1:=(HB.out.cell (World.block_lt_of_cell? w _ hx238_1)).trans hx238_1
      replace p238:=eq_true p238
      replace q238:=eq_true q238
      go_wp2_with (first|((with_reducible refine gate_callee (f:=96) rfl ?_);refine goesL_ (some 18) rfl rfl Try.func96 (by kernel_rfl) rfl #[.agg #[.int .i64 ((rd_T103 l0 x4_1).f0),.int .i64 ((rd_T103 l0 x4_1).f1)]] rfl (by (try simp only [List.map_toArray,List.map_cons,List.map_nil]);first|done|rfl|(simp only [List.length_drop,List.length_take];rfl)) ?_;(with_reducible refine (q5clip.calls k1 ((rd_T103 l0 x4_1).f0) ((rd_T103 l0 x4_1).f1) t239 t240 _ A6.out).mono ?_);rintro e w8 ⟨rfl,hb⟩;refine ⟨_,rfl,?_⟩;have n0_:=Z0.mk (Kd.R_below (by (with_reducible repeat (first|apply Kd.R_alloc|apply Kd.R_drewN|apply Kd.R_drew));exact HO_3.out) hb);have n1_:=Z0.mk (below_step (by repeat (first|(with_reducible first|exact HB.out|apply zbA|apply zbN|apply zb1)|exact HB.out)) hb);clear HO_3;clear HB;have HO_3:=n0_;have HB:=n1_;clear n0_ n1_;(try clear hb);(try clear hb2);(try clear hk);(try clear hi))|((with_reducible refine gate_dst (N:=5) rfl ?_);refine box_event ?hg (N:=5) ?hd (cs:=#[.int .i64 0,.int .i64 0]) (t:=103) ?hr ?_;(case hd=>rfl);(case hg=>rfl);(case hr=>first|(go_simp;done)|(go_simp;rfl));intro gb241 hg w9 hbox hb;have n0_:=Z0.mk (Kd.R_below (Kd.R_elderB (by (with_reducible repeat (first|apply Kd.R_alloc|apply Kd.R_drewN|apply Kd.R_drew));exact HO_3.out) gb241 (Nat.le_of_eq hg.symm)) hb);have n1_:=Z0.mk (below_step (by repeat (first|(with_reducible first|exact HB.out|apply zbA|apply zbN|apply zb1)|exact HB.out)) hb);have n2_:=Z0.mk (hbox);have n3_:=Z0.mk ((by rw [hg];exact (below_size (by repeat (first|(with_reducible first|exact HB.out|apply zbA|apply zbN|apply zb1)|exact HB.out))) : w.heap.size≤gb241));have n4_:=Z0.mk ((by rw [hg];exact (below_size (by repeat (first|(with_reducible first|exact HB.out|apply zbA|apply zbN|apply zb1)|exact HB.out))) : w.heap.size≤gb241));clear HO_3;clear HB;have HO_3:=n0_;have HB:=n1_;have BK241:=n2_;have GW241:=n3_;have GE241:=n4_;clear n0_ n1_ n2_ n3_ n4_;clear hb hbox hg;have hcz10_0 : w9.cell? ⟨gb241,0,none⟩=some (.int .i64 0):=(zkC BK241.out 0).trans rfl;have hcz10_1 : w9.cell? ⟨gb241,1,none⟩=some (.int .i64 0):=(zkC BK241.out 1).trans rfl;have hfz10_0:=zkF BK241.out 0;have hfz10_1:=zkF BK241.out 1))
      go_roundg k1
      case measure=>have:=HK1.out;omega
      case rel=>exact ⟨(x3_1),(wrap64 (x4_1 + 1)),(by first|rfl|(simp;done)|(simp [*];done)),H',⟨by have:=HK1.out;omega⟩,⟨by (with_reducible repeat (first|apply Kd.R_alloc|apply Kd.R_drewN|apply Kd.R_drew));exact Kd.R_mono (Kd.R_far (p:=⟨gb241,1,none⟩) (Kd.R_far (p:=⟨gb241,0,none⟩) (Kd.R_mono HO_3.out (fun k_ hk=>(⟨hk,hk.2⟩ : _∧k_ ≠ gb241))) (fun _ hk=>hk.2) (.int .i64 t239)) (fun _ hk=>hk.2) (.int .i64 t240)) (fun _ hk=>trivial)⟩,⟨by repeat (first|(with_reducible first|exact HB.out|apply zbA|apply zbN|apply zb1|refine zbS ?_ GE241.out)|exact HB.out)⟩⟩
     rw [if_neg c7] at H
     have c7b0:(t240 == 0)=false:=beq_eq_false_iff_ne.mpr c7
     have c7b1:(t240 != 0)=true:=bne_iff_ne.mpr c7
     by_cases c11:(x3_1.length:Int) > 0
     ·rw [if_pos c11] at H
      have c11b0 : decide (0 < (x3_1.length:Int))=true:=decide_eq_true c11
      have c11b1 : decide (0 < x3_1.length)=true:=decide_eq_true (by omega)
      clear c11
      obtain ⟨ji12,hji12⟩:∃ j_:Int,(wrap64 ((x3_1.length:Int) - 1))=j_:=⟨_,rfl⟩
      replace H:(if 0≤(ji12) then (if (ji12) < (x3_1.length:Int) then (if (wrap64 (((rd_T103 x3_1 (ji12)).f0) + ((rd_T103 x3_1 (ji12)).f1)))=t239 then (q5Join.l0 k1 l0 (x3_1.set ((ji12):Int).toNat (⟨(rd_T103 x3_1 (ji12)).f0,wrap64 (((rd_T103 x3_1 (ji12)).f1) + t240)⟩:S103)) (wrap64 (x4_1 + 1))) else (if x3_1.length < 8796093022208 then (q5Join.l0 k1 l0 (x3_1++[(⟨t239,t240⟩:S103)]) (wrap64 (x4_1 + 1))) else (none))) else (none)) else (none))=some r:=by first|(rw [hji12] at H;exact H)|(simp only [hji12] at H ⊢;exact H)
      (try rw [hji12] at A6)
      have hji12w:(IntKind.i64.wrap ((x3_1.length:Int) - 1))=ji12:=(i64_w _).trans hji12
      by_cases c13 : 0≤(ji12)
      ·rw [if_pos c13] at H
       have c13b0 : decide (0≤(ji12))=true:=decide_eq_true c13
       clear c13
       by_cases c14:(ji12) < (x3_1.length:Int)
       ·rw [if_pos c14] at H
        have c14b0 : decide ((ji12) < (x3_1.length:Int))=true:=decide_eq_true c14
        clear c14
        by_cases c15:(wrap64 (((rd_T103 x3_1 (ji12)).f0) + ((rd_T103 x3_1 (ji12)).f1)))=t239
        ·rw [if_pos c15] at H
         have c15b0:((wrap64 (((rd_T103 x3_1 (ji12)).f0) + ((rd_T103 x3_1 (ji12)).f1))) == t239)=true:=beq_iff_eq.mpr c15
         have c15b1:((wrap64 (((rd_T103 x3_1 (ji12)).f0) + ((rd_T103 x3_1 (ji12)).f1))) != t239)=false:=bne_eq_false_iff_eq.mpr c15
         clear c15
         obtain ⟨y245,hy245⟩:∃ y_:List (S103),y_=(x3_1.set ((ji12):Int).toNat (⟨(rd_T103 x3_1 (ji12)).f0,wrap64 (((rd_T103 x3_1 (ji12)).f1) + t240)⟩:S103)):=⟨_,rfl⟩
         replace H:(q5Join.l0 k1 l0 y245 (wrap64 (x4_1 + 1)))=some r:=by first|(rw [hy245];with_reducible exact H)|(have H2_:=(Option.bind_some _ _).symm.trans H;rw [hy245];with_reducible exact H2_)|(have H2_:=(Option.bind_some _ _).symm.trans H;with_reducible exact H2_)|with_reducible exact H|(rw [hy245];exact H)|exact H
         have Ny245:=Z0.mk hy245
         clear hy245
         have H':=Z0.mk H
         clear H
         have p238 : 0≤(x4_1:Int):=of_decide_eq_true (by first|(with_reducible assumption)|assumption)
         have q238 : x4_1 < (l0.length:Int):=of_decide_eq_true (by first|(with_reducible assumption)|assumption)
         obtain ⟨ad238,e238,hx238_0,hx238_1⟩:=at_T103 HR0.out x4_1 p238 q238
         cases e238
         replace hx238_0:=(HB.out.cell (World.block_lt_of_cell? w _ hx238_0)).trans hx238_0
         replace hx238_1:=(HB.out.cell (World.block_lt_of_cell? w _ hx238_1)).trans hx238_1
         replace p238:=eq_true p238
         replace q238:=eq_true q238
         try go_wp2_with (first|((with_reducible refine gate_callee (f:=96) rfl ?_);refine goesL_ (some 18) rfl rfl Try.func96 (by kernel_rfl) rfl #[.agg #[.int .i64 ((rd_T103 l0 x4_1).f0),.int .i64 ((rd_T103 l0 x4_1).f1)]] rfl (by (try simp only [List.map_toArray,List.map_cons,List.map_nil]);first|done|rfl|(simp only [List.length_drop,List.length_take];rfl)) ?_;(with_reducible refine (q5clip.calls k1 ((rd_T103 l0 x4_1).f0) ((rd_T103 l0 x4_1).f1) t239 t240 _ A6.out).mono ?_);rintro e w17 ⟨rfl,hb⟩;refine ⟨_,rfl,?_⟩;have n0_:=Z0.mk (Kd.R_below (by (with_reducible repeat (first|apply Kd.R_alloc|apply Kd.R_drewN|apply Kd.R_drew));exact HO_3.out) hb);have n1_:=Z0.mk (below_step (by repeat (first|(with_reducible first|exact HB.out|apply zbA|apply zbN|apply zb1)|exact HB.out)) hb);clear HO_3;clear HB;have HO_3:=n0_;have HB:=n1_;clear n0_ n1_;(try clear hb);(try clear hb2);(try clear hk);(try clear hi))|((with_reducible refine gate_dst (N:=5) rfl ?_);refine box_event ?hg (N:=5) ?hd (cs:=#[.int .i64 0,.int .i64 0]) (t:=103) ?hr ?_;(case hd=>rfl);(case hg=>rfl);(case hr=>first|(go_simp;done)|(go_simp;rfl));intro gb241 hg w18 hbox hb;have n0_:=Z0.mk (Kd.R_below (Kd.R_elderB (by (with_reducible repeat (first|apply Kd.R_alloc|apply Kd.R_drewN|apply Kd.R_drew));exact HO_3.out) gb241 (Nat.le_of_eq hg.symm)) hb);have n1_:=Z0.mk (below_step (by repeat (first|(with_reducible first|exact HB.out|apply zbA|apply zbN|apply zb1)|exact HB.out)) hb);have n2_:=Z0.mk (hbox);have n3_:=Z0.mk ((by rw [hg];exact (below_size (by repeat (first|(with_reducible first|exact HB.out|apply zbA|apply zbN|apply zb1)|exact HB.out))) : w.heap.size≤gb241));have n4_:=Z0.mk ((by rw [hg];exact (below_size (by repeat (first|(with_reducible first|exact HB.out|apply zbA|apply zbN|apply zb1)|exact HB.out))) : w.heap.size≤gb241));clear HO_3;clear HB;have HO_3:=n0_;have HB:=n1_;have BK241:=n2_;have GW241:=n3_;have GE241:=n4_;clear n0_ n1_ n2_ n3_ n4_;clear hb hbox hg;have hcz19_0 : w18.cell? ⟨gb241,0,none⟩=some (.int .i64 0):=(zkC BK241.out 0).trans rfl;have hcz19_1 : w18.cell? ⟨gb241,1,none⟩=some (.int .i64 0):=(zkC BK241.out 1).trans rfl;have hfz19_0:=zkF BK241.out 0;have hfz19_1:=zkF BK241.out 1;obtain ⟨Ao20,co20,eo20⟩:=Kd.R_slice HO_3.out;subst eo20))
         have n0_:Z0 (Kd.R k103 103 ((w18.setCell ⟨gb241,0,none⟩ (.int .i64 t239)).setCell ⟨gb241,1,none⟩ (.int .i64 t240)) w.heap.size (fun k_=>k_ ≠ gb241) (.slice Ao20 x3_1.length co20) x3_1):=⟨by (with_reducible repeat (first|apply Kd.R_alloc|apply Kd.R_drewN|apply Kd.R_drew));exact Kd.R_mono (Kd.R_far (p:=⟨gb241,1,none⟩) (Kd.R_far (p:=⟨gb241,0,none⟩) (Kd.R_mono HO_3.out (fun k_ hk=>(⟨hk,hk.2⟩ : _∧k_ ≠ gb241))) (fun _ hk=>hk.2) (.int .i64 t239)) (fun _ hk=>hk.2) (.int .i64 t240)) (fun _ hk=>hk.1.2)⟩
         have n1_:Z0 (((w18.setCell ⟨gb241,0,none⟩ (.int .i64 t239)).setCell ⟨gb241,1,none⟩ (.int .i64 t240)).heap[gb241]?=some (.cells #[.int .i64 t239,.int .i64 t240] 103 (0,0))):=⟨by (with_reducible repeat (first|refine zkN ?_ _|refine zkD ?_|refine zkA ?_ _));refine blk_put (cs:=#[.int .i64 t239,.int .i64 0]) ?_ 1 _ rfl;(with_reducible repeat (first|refine zkN ?_ _|refine zkD ?_|refine zkA ?_ _));refine blk_put (cs:=#[.int .i64 0,.int .i64 0]) ?_ 0 _ rfl;(with_reducible repeat (first|refine zkN ?_ _|refine zkD ?_|refine zkA ?_ _));exact BK241.out⟩
         have n2_:Z0 (Below w.heap.size w ((w18.setCell ⟨gb241,0,none⟩ (.int .i64 t239)).setCell ⟨gb241,1,none⟩ (.int .i64 t240))):=⟨by repeat (first|(with_reducible first|exact HB.out|apply zbA|apply zbN|apply zb1|refine zbS ?_ GE241.out)|exact HB.out)⟩
         (try clear HO_3)
         (try clear BK241)
         (try clear HB)
         generalize ((w18.setCell ⟨gb241,0,none⟩ (.int .i64 t239)).setCell ⟨gb241,1,none⟩ (.int .i64 t240))=w21 at n0_ n1_ n2_ ⊢
         have HO_3:=n0_
         have BK241:=n1_
         have HB:=n2_
         clear n0_ n1_ n2_
         have n0_:=Z0.mk (Kd.R_drew HO_3.out)
         have n1_:=Z0.mk (zkD BK241.out)
         have n2_:=Z0.mk (zb1 HB.out)
         clear HO_3
         clear BK241
         clear HB
         have HO_3:=n0_
         have BK241:=n1_
         have HB:=n2_
         clear n0_ n1_ n2_
         have p242 : 0≤((ji12):Int):=of_decide_eq_true (by first|(with_reducible assumption)|assumption)
         have q242:(ji12) < (x3_1.length:Int):=of_decide_eq_true (by first|(with_reducible assumption)|assumption)
         obtain ⟨ad242,e242,hx242_0,hx242_1⟩:=at_T103 (Kd.R_reads' HO_3.out).2.2 (ji12) p242 q242
         cases e242
         replace p242:=eq_true p242
         replace q242:=eq_true q242
         have p243 : 0≤((ji12):Int):=of_decide_eq_true (by first|(with_reducible assumption)|assumption)
         have q243:(ji12) < (x3_1.length:Int):=of_decide_eq_true (by first|(with_reducible assumption)|assumption)
         obtain ⟨ad243,e243,hx243_0,hx243_1⟩:=at_T103 (Kd.R_reads' HO_3.out).2.2 (ji12) p243 q243
         obtain rfl : ad242=ad243:=(by injection e243)
         replace p243:=eq_true p243
         replace q243:=eq_true q243
         refine start_ (n:=20) (S:=fun w'=>w'.cell? ⟨gb241,0,none⟩=some (.int .i64 t239)∧w'.cell? ⟨gb241,1,none⟩=some (.int .i64 t240)∧w'.cell? (ad242.add (((ji12)).toNat * 2))=some (.int .i64 ((rd_T103 x3_1 (ji12)).f0))∧w'.cell? ⟨(ad242.add (((ji12)).toNat * 2)).block,(ad242.add (((ji12)).toNat * 2)).off + 1,none⟩=some (.int .i64 ((rd_T103 x3_1 (ji12)).f1))∧w'.cell? (ad242.add (((ji12)).toNat * 2))=some (.int .i64 ((rd_T103 x3_1 (ji12)).f0))∧w'.cell? ⟨(ad242.add (((ji12)).toNat * 2)).block,(ad242.add (((ji12)).toNat * 2)).off + 1,none⟩=some (.int .i64 ((rd_T103 x3_1 (ji12)).f1))) (ds:=[]) #[false,false,false,false,false,false,false,false,false,false,false,false,false,false,false,false,false,false,false,false] (by kernel_rfl) rfl rfl ⟨(zkC BK241.out 0).trans rfl,(zkC BK241.out 1).trans rfl,hx242_0,hx242_1,hx243_0,hx243_1⟩ (fun hHeld=>?_);refine with_tabW q5Join.tab8 q5Join.bits8 (fun HT_ HW_=>?_)
         generalize w21.drew=w22 at HO_3 BK241 HB hx242_0 hx242_1 hx243_0 hx243_1 hHeld ⊢
         refine pure_ (i:=0) (N:=some 24) (v:=?_) (a':=?_) #[true,false,false,false,false,false,false,false,false,false,false,false,false,false,false,false,false,false,false,false] rfl rfl (any_of HT_.out (by kernel_rfl)) (fun _ _ _ h=>h) (Or.inl ⟨by rfl,?_⟩) ?_ ?_
         rotate_left
         ·intro w'
          go_simp
          with_reducible rfl
         rotate_left
         ·simp only [Act.put,List.setIfInBounds_toArray,List.set_cons_zero,List.set_cons_succ,i64_w,i32_w]
          rfl
         refine pure_ (i:=1) (N:=some 25) (v:=?_) (a':=?_) #[true,true,false,false,false,false,false,false,false,false,false,false,false,false,false,false,false,false,false,false] rfl rfl (any_of HT_.out (by kernel_rfl)) (fun _ _ _ h=>h) (Or.inl ⟨by rfl,?_⟩) ?_ ?_
         rotate_left
         ·intro w'
          go_simp
          with_reducible rfl
         rotate_left
         ·simp only [Act.put,List.setIfInBounds_toArray,List.set_cons_zero,List.set_cons_succ,i64_w,i32_w]
          rfl
         refine pure_ (i:=2) (N:=some 26) (v:=?_) (a':=?_) #[true,true,true,false,false,false,false,false,false,false,false,false,false,false,false,false,false,false,false,false] rfl rfl (any_of HT_.out (by kernel_rfl)) (fun _ _ _ h=>h) (Or.inl ⟨by rfl,?_⟩) ?_ ?_
         rotate_left
         ·intro w'
          go_simp
          with_reducible rfl
         rotate_left
         ·simp only [Act.put,List.setIfInBounds_toArray,List.set_cons_zero,List.set_cons_succ,i64_w,i32_w]
          rfl
         refine pure_ (i:=3) (N:=some 27) (v:=?_) (a':=?_) #[true,true,true,true,false,false,false,false,false,false,false,false,false,false,false,false,false,false,false,false] rfl rfl (any_of HT_.out (by kernel_rfl)) (fun _ _ _ h=>h) (Or.inl ⟨by rfl,?_⟩) ?_ ?_
         rotate_left
         ·intro w'
          go_simp
          with_reducible rfl
         rotate_left
         ·simp only [Act.put,List.setIfInBounds_toArray,List.set_cons_zero,List.set_cons_succ,i64_w,i32_w]
          rfl
         refine pure_ (i:=4) (N:=some 28) (v:=?_) (a':=?_) #[true,true,true,true,true,false,false,false,false,false,false,false,false,false,false,false,false,false,false,false] rfl rfl (any_of HT_.out (by kernel_rfl)) (fun _ _ _ h=>h) (Or.inl ⟨by rfl,?_⟩) ?_ ?_
         rotate_left
         ·intro w'
          go_simp
          with_reducible rfl
         rotate_left
         ·simp only [Act.put,List.setIfInBounds_toArray,List.set_cons_zero,List.set_cons_succ,i64_w,i32_w]
          rfl
         refine pure_ (i:=5) (N:=some 29) (v:=?_) (a':=?_) #[true,true,true,true,true,true,false,false,false,false,false,false,false,false,false,false,false,false,false,false] rfl rfl (any_of HT_.out (by kernel_rfl)) (fun _ _ _ h=>h) (Or.inl ⟨by rfl,?_⟩) ?_ ?_
         rotate_left
         ·intro w'
          go_simp
          with_reducible rfl
         rotate_left
         ·simp only [Act.put,List.setIfInBounds_toArray,List.set_cons_zero,List.set_cons_succ,i64_w,i32_w]
          rfl
         refine pure_ (i:=6) (N:=some 30) (v:=?_) (a':=?_) #[true,true,true,true,true,true,true,false,false,false,false,false,false,false,false,false,false,false,false,false] rfl rfl (any_of HT_.out (by kernel_rfl)) (fun _ _ _ h=>h) (Or.inl ⟨by rfl,?_⟩) ?_ ?_
         rotate_left
         ·intro w'
          go_simp
          with_reducible rfl
         rotate_left
         ·simp only [Act.put,List.setIfInBounds_toArray,List.set_cons_zero,List.set_cons_succ,i64_w,i32_w]
          rfl
         refine pure_ (i:=7) (N:=some 31) (v:=?_) (a':=?_) #[true,true,true,true,true,true,true,true,false,false,false,false,false,false,false,false,false,false,false,false] rfl rfl (any_of HT_.out (by kernel_rfl)) (fun _ _ _ h=>h) (Or.inl ⟨by rfl,?_⟩) ?_ ?_
         rotate_left
         ·intro w'
          go_simp
          with_reducible rfl
         rotate_left
         ·simp only [Act.put,List.setIfInBounds_toArray,List.set_cons_zero,List.set_cons_succ,i64_w,i32_w]
          rfl
         refine pure_ (i:=9) (N:=some 33) (v:=?_) (a':=?_) #[true,true,true,true,true,true,true,true,false,true,false,false,false,false,false,false,false,false,false,false] rfl rfl (any_of HT_.out (by kernel_rfl)) (fun _ _ _ h=>h) (Or.inl ⟨by rfl,?_⟩) ?_ ?_
         rotate_left
         ·intro w'
          go_simp
          with_reducible rfl
         rotate_left
         ·simp only [Act.put,List.setIfInBounds_toArray,List.set_cons_zero,List.set_cons_succ,i64_w,i32_w]
          rfl
         refine pure_ (i:=10) (N:=some 34) (v:=?_) (a':=?_) #[true,true,true,true,true,true,true,true,false,true,true,false,false,false,false,false,false,false,false,false] rfl rfl (any_of HT_.out (by kernel_rfl)) (fun _ _ _ h=>h) (Or.inl ⟨by rfl,?_⟩) ?_ ?_
         rotate_left
         ·intro w'
          go_simp
          with_reducible rfl
         rotate_left
         ·simp only [Act.put,List.setIfInBounds_toArray,List.set_cons_zero,List.set_cons_succ,i64_w,i32_w]
          rfl
         refine pure_ (i:=11) (N:=some 35) (v:=?_) (a':=?_) #[true,true,true,true,true,true,true,true,false,true,true,true,false,false,false,false,false,false,false,false] rfl rfl (any_of HT_.out (by kernel_rfl)) (fun _ _ _ h=>h) (Or.inl ⟨by rfl,?_⟩) ?_ ?_
         rotate_left
         ·intro w'
          go_simp
          with_reducible rfl
         rotate_left
         ·simp only [Act.put,List.setIfInBounds_toArray,List.set_cons_zero,List.set_cons_succ,i64_w,i32_w]
          rfl
         refine pure_ (i:=12) (N:=some 36) (v:=?_) (a':=?_) #[true,true,true,true,true,true,true,true,false,true,true,true,true,false,false,false,false,false,false,false] rfl rfl (any_of HT_.out (by kernel_rfl)) (fun _ _ _ h=>h) (Or.inl ⟨by rfl,?_⟩) ?_ ?_
         rotate_left
         ·intro w'
          go_simp
          with_reducible rfl
         rotate_left
         ·simp only [Act.put,List.setIfInBounds_toArray,List.set_cons_zero,List.set_cons_succ,i64_w,i32_w]
          rfl
         refine pure_ (i:=13) (N:=some 37) (v:=?_) (a':=?_) #[true,true,true,true,true,true,true,true,false,true,true,true,true,true,false,false,false,false,false,false] rfl rfl (any_of HT_.out (by kernel_rfl)) (fun _ _ _ h=>h) (Or.inl ⟨by rfl,?_⟩) ?_ ?_
         rotate_left
         ·intro w'
          go_simp
          with_reducible rfl
         rotate_left
         ·simp only [Act.put,List.setIfInBounds_toArray,List.set_cons_zero,List.set_cons_succ,i64_w,i32_w]
          rfl
         refine pure_ (i:=16) (N:=some 40) (v:=?_) (a':=?_) #[true,true,true,true,true,true,true,true,false,true,true,true,true,true,false,false,true,false,false,false] rfl rfl (any_of HT_.out (by kernel_rfl)) (fun _ _ _ h=>h) (Or.inl ⟨by rfl,?_⟩) ?_ ?_
         rotate_left
         ·intro w'
          go_simp
          with_reducible rfl
         rotate_left
         ·simp only [Act.put,List.setIfInBounds_toArray,List.set_cons_zero,List.set_cons_succ,i64_w,i32_w]
          rfl
         refine take_ (i:=8) (N:=some 32) (v:=?_) (a':=?_) #[true,true,true,true,true,true,true,true,true,true,true,true,true,true,false,false,true,false,false,false] rfl rfl (take_ofW HT_.out HW_.out (by kernel_rfl)) (fun _ _ _ h=>h) (Or.inl ⟨by rfl,?_⟩) hHeld ?_ ?_
         rotate_left
         ·rintro w' ⟨s0,s1,s2,s3,s4,s5⟩
          go_simp
          with_reducible rfl
         rotate_left
         ·simp only [Act.put,List.setIfInBounds_toArray,List.set_cons_zero,List.set_cons_succ,i64_w,i32_w]
          rfl
         refine take_ (i:=14) (N:=some 38) (v:=?_) (a':=?_) #[true,true,true,true,true,true,true,true,true,true,true,true,true,true,true,false,true,false,false,false] rfl rfl (take_ofW HT_.out HW_.out (by kernel_rfl)) (fun _ _ _ h=>h) (Or.inl ⟨by rfl,?_⟩) hHeld ?_ ?_
         rotate_left
         ·rintro w' ⟨s0,s1,s2,s3,s4,s5⟩
          go_simp
          with_reducible rfl
         rotate_left
         ·simp only [Act.put,List.setIfInBounds_toArray,List.set_cons_zero,List.set_cons_succ,i64_w,i32_w]
          rfl
         refine pure_ (i:=15) (N:=some 39) (v:=?_) (a':=?_) #[true,true,true,true,true,true,true,true,true,true,true,true,true,true,true,true,true,false,false,false] rfl rfl (any_of HT_.out (by kernel_rfl)) (fun _ _ _ h=>h) (Or.inl ⟨by rfl,?_⟩) ?_ ?_
         rotate_left
         ·intro w'
          go_simp
          with_reducible rfl
         rotate_left
         ·simp only [Act.put,List.setIfInBounds_toArray,List.set_cons_zero,List.set_cons_succ,i64_w,i32_w]
          rfl
         refine take_ (i:=17) (N:=some 41) (v:=?_) (a':=?_) #[true,true,true,true,true,true,true,true,true,true,true,true,true,true,true,true,true,true,false,false] rfl rfl (take_ofW HT_.out HW_.out (by kernel_rfl)) (fun _ _ _ h=>h) (Or.inl ⟨by rfl,?_⟩) hHeld ?_ ?_
         rotate_left
         ·rintro w' ⟨s0,s1,s2,s3,s4,s5⟩
          go_simp
          with_reducible rfl
         rotate_left
         ·simp only [Act.put,List.setIfInBounds_toArray,List.set_cons_zero,List.set_cons_succ,i64_w,i32_w]
          rfl
         refine pure_ (i:=18) (N:=some 42) (v:=?_) (a':=?_) #[true,true,true,true,true,true,true,true,true,true,true,true,true,true,true,true,true,true,true,false] rfl rfl (any_of HT_.out (by kernel_rfl)) (fun _ _ _ h=>h) (Or.inl ⟨by rfl,?_⟩) ?_ ?_
         rotate_left
         ·intro w'
          go_simp
          with_reducible rfl
         rotate_left
         ·simp only [Act.put,List.setIfInBounds_toArray,List.set_cons_zero,List.set_cons_succ,i64_w,i32_w]
          rfl
         refine pure_ (i:=19) (N:=some 43) (v:=?_) (a':=?_) #[true,true,true,true,true,true,true,true,true,true,true,true,true,true,true,true,true,true,true,true] rfl rfl (any_of HT_.out (by kernel_rfl)) (fun _ _ _ h=>h) (Or.inl ⟨by rfl,?_⟩) ?_ ?_
         rotate_left
         ·intro w'
          go_simp
          with_reducible rfl
         rotate_left
         ·simp only [Act.put,List.setIfInBounds_toArray,List.set_cons_zero,List.set_cons_succ,i64_w,i32_w]
          rfl
         refine done_ (done_of HT_.out (by kernel_rfl)) ?_
         try go_wp2
         have n0_:=Z0.mk (Kd.R_drew HO_3.out)
         have n1_:=Z0.mk (zkD BK241.out)
         have n2_:=Z0.mk (zb1 HB.out)
         clear HO_3
         clear BK241
         clear HB
         have HO_3:=n0_
         have BK241:=n1_
         have HB:=n2_
         clear n0_ n1_ n2_
         have p244 : 0≤((ji12):Int):=of_decide_eq_true (by first|(with_reducible assumption)|assumption)
         have q244:(ji12) < (x3_1.length:Int):=of_decide_eq_true (by first|(with_reducible assumption)|assumption)
         obtain ⟨ad244,e244,hx244_0,hx244_1⟩:=at_T103 (Kd.R_reads' HO_3.out).2.2 (ji12) p244 q244
         obtain rfl : ad242=ad244:=(by injection e244)
         replace p244:=eq_true p244
         replace q244:=eq_true q244
         have p16 : 0≤((ji12):Int):=of_decide_eq_true (by first|(with_reducible assumption)|assumption)
         have q16:((ji12):Int) < ((x3_1.length:Int):Int):=of_decide_eq_true (by first|(with_reducible assumption)|assumption)
         obtain ⟨go16,co16,eo16,gb16,gl16,cl16,HG16⟩:=Kd.R_form HO_3.out (by omega)
         (first|cases eo16|(injection eo16 with ea_ en_ ec_;(first|subst ea_|(injection ea_ with ea_;subst ea_));subst ec_;clear en_))
         have GB16:=Z0.mk gb16
         have GG16:=Z0.mk HG16
         clear gb16 gl16 HG16
         (first|simp only [add_plain] at hx242_0|skip)
         (first|simp only [add_plain] at hx242_1|skip)
         (first|simp only [add_plain] at hx243_0|skip)
         (first|simp only [add_plain] at hx243_1|skip)
         (first|simp only [add_plain] at hx244_0|skip)
         (first|simp only [add_plain] at hx244_1|skip)
         obtain ⟨ce16,hcl16,hM16,hcc16,hfr16⟩:=Kd.R_elem HO_3.out z103 ((ji12):Int) p16 q16
         obtain rfl:=k103_openM hM16
         have hx16_0:World.cell? _ ⟨go16,((ji12):Int).toNat * 2,none⟩=some (.int .i64 ((rd_T103 x3_1 (ji12)).f0)):=hcc16 0 _ rfl
         have hx16_1:World.cell? _ ⟨go16,((ji12):Int).toNat * 2 + 1,none⟩=some (.int .i64 ((rd_T103 x3_1 (ji12)).f1)):=hcc16 1 _ rfl
         have hf16_0:World.frozen? _ ⟨go16,((ji12):Int).toNat * 2,none⟩=false:=hfr16 0
         have hf16_1:World.frozen? _ ⟨go16,((ji12):Int).toNat * 2 + 1,none⟩=false:=hfr16 1
         clear hcl16 hcc16 hfr16 hM16
         replace p16:=eq_true p16
         replace q16:=eq_true q16
         obtain ⟨ce24,hcl24,hM24,hcc24,hfr24⟩:=Kd.R_elem HO_3.out z103 ((ji12):Int) (of_decide_eq_true (by first|(with_reducible assumption)|assumption)) (by have h_:((ji12):Int) < ((x3_1.length:Int):Int):=of_decide_eq_true (by first|(with_reducible assumption)|assumption);first|exact h_|(have e_:=(Kd.R_reads' HO_3.out).1;omega)|simpa using h_)
         obtain rfl:=k103_openM hM24
         have HP24:=(Kd.R_seg HO_3.out ((ji12):Int) (of_decide_eq_true (by first|(with_reducible assumption)|assumption)) (by have h_:((ji12):Int) < ((x3_1.length:Int):Int):=of_decide_eq_true (by first|(with_reducible assumption)|assumption);first|exact h_|(have e_:=(Kd.R_reads' HO_3.out).1;omega)|simpa using h_) (seg:=[.int .i64 (wrap64 (((rd_T103 x3_1 (ji12)).f1) + t240))]) (j:=1) hcl24 hcc24 (show 2≤2 from by decide) (x':=(⟨(rd_T103 x3_1 (ji12)).f0,wrap64 (((rd_T103 x3_1 (ji12)).f1) + t240)⟩:S103)) (k103_mkM _ _ _ (⟨(rd_T103 x3_1 (ji12)).f0,wrap64 (((rd_T103 x3_1 (ji12)).f1) + t240)⟩:S103) ) (fun _ hk=>hk)).1
         rw [← Ny245.out] at HP24
         have HQ24:=Z0.mk HP24
         clear hcl24 hcc24 hfr24 hM24 HP24
         refine start_ (n:=15) (S:=fun w'=>w'.cell? ⟨gb241,0,none⟩=some (.int .i64 t239)∧w'.cell? ⟨gb241,1,none⟩=some (.int .i64 t240)∧w'.cell? ⟨go16,((ji12)).toNat * 2,none⟩=some (.int .i64 ((rd_T103 x3_1 (ji12)).f0))∧w'.cell? ⟨go16,((ji12)).toNat * 2 + 1,none⟩=some (.int .i64 ((rd_T103 x3_1 (ji12)).f1))) (ds:=[14]) #[false,false,false,false,false,false,false,false,false,false,false,false,false,false,false] (by kernel_rfl) rfl rfl ⟨(zkC BK241.out 0).trans rfl,(zkC BK241.out 1).trans rfl,hx244_0,hx244_1⟩ (fun hHeld=>?_);refine with_tabW q5Join.tab9 q5Join.bits9 (fun HT_ HW_=>?_)
         generalize w22.drew=w23 at HO_3 BK241 HB GG16 HQ24 hf16_0 hf16_1 hx16_0 hx16_1 hx242_0 hx242_1 hx243_0 hx243_1 hx244_0 hx244_1 hHeld ⊢
         refine pure_ (i:=0) (N:=some 44) (v:=?_) (a':=?_) #[true,false,false,false,false,false,false,false,false,false,false,false,false,false,false] rfl rfl (any_of HT_.out (by kernel_rfl)) (fun _ _ _ h=>h) (Or.inl ⟨by rfl,?_⟩) ?_ ?_
         rotate_left
         ·intro w'
          go_simp
          with_reducible rfl
         rotate_left
         ·simp only [Act.put,List.setIfInBounds_toArray,List.set_cons_zero,List.set_cons_succ,i64_w,i32_w]
          rfl
         refine pure_ (i:=1) (N:=some 45) (v:=?_) (a':=?_) #[true,true,false,false,false,false,false,false,false,false,false,false,false,false,false] rfl rfl (any_of HT_.out (by kernel_rfl)) (fun _ _ _ h=>h) (Or.inl ⟨by rfl,?_⟩) ?_ ?_
         rotate_left
         ·intro w'
          go_simp
          with_reducible rfl
         rotate_left
         ·simp only [Act.put,List.setIfInBounds_toArray,List.set_cons_zero,List.set_cons_succ,i64_w,i32_w]
          rfl
         refine pure_ (i:=2) (N:=some 46) (v:=?_) (a':=?_) #[true,true,true,false,false,false,false,false,false,false,false,false,false,false,false] rfl rfl (any_of HT_.out (by kernel_rfl)) (fun _ _ _ h=>h) (Or.inl ⟨by rfl,?_⟩) ?_ ?_
         rotate_left
         ·intro w'
          go_simp
          with_reducible rfl
         rotate_left
         ·simp only [Act.put,List.setIfInBounds_toArray,List.set_cons_zero,List.set_cons_succ,i64_w,i32_w]
          rfl
         refine pure_ (i:=3) (N:=some 47) (v:=?_) (a':=?_) #[true,true,true,true,false,false,false,false,false,false,false,false,false,false,false] rfl rfl (any_of HT_.out (by kernel_rfl)) (fun _ _ _ h=>h) (Or.inl ⟨by rfl,?_⟩) ?_ ?_
         rotate_left
         ·intro w'
          go_simp
          with_reducible rfl
         rotate_left
         ·simp only [Act.put,List.setIfInBounds_toArray,List.set_cons_zero,List.set_cons_succ,i64_w,i32_w]
          rfl
         refine pure_ (i:=4) (N:=some 48) (v:=?_) (a':=?_) #[true,true,true,true,true,false,false,false,false,false,false,false,false,false,false] rfl rfl (any_of HT_.out (by kernel_rfl)) (fun _ _ _ h=>h) (Or.inl ⟨by rfl,?_⟩) ?_ ?_
         rotate_left
         ·intro w'
          go_simp
          with_reducible rfl
         rotate_left
         ·simp only [Act.put,List.setIfInBounds_toArray,List.set_cons_zero,List.set_cons_succ,i64_w,i32_w]
          rfl
         refine pure_ (i:=5) (N:=some 49) (v:=?_) (a':=?_) #[true,true,true,true,true,true,false,false,false,false,false,false,false,false,false] rfl rfl (any_of HT_.out (by kernel_rfl)) (fun _ _ _ h=>h) (Or.inl ⟨by rfl,?_⟩) ?_ ?_
         rotate_left
         ·intro w'
          go_simp
          with_reducible rfl
         rotate_left
         ·simp only [Act.put,List.setIfInBounds_toArray,List.set_cons_zero,List.set_cons_succ,i64_w,i32_w]
          rfl
         refine pure_ (i:=6) (N:=some 50) (v:=?_) (a':=?_) #[true,true,true,true,true,true,true,false,false,false,false,false,false,false,false] rfl rfl (any_of HT_.out (by kernel_rfl)) (fun _ _ _ h=>h) (Or.inl ⟨by rfl,?_⟩) ?_ ?_
         rotate_left
         ·intro w'
          go_simp
          with_reducible rfl
         rotate_left
         ·simp only [Act.put,List.setIfInBounds_toArray,List.set_cons_zero,List.set_cons_succ,i64_w,i32_w]
          rfl
         refine pure_ (i:=7) (N:=some 51) (v:=?_) (a':=?_) #[true,true,true,true,true,true,true,true,false,false,false,false,false,false,false] rfl rfl (any_of HT_.out (by kernel_rfl)) (fun _ _ _ h=>h) (Or.inl ⟨by rfl,?_⟩) ?_ ?_
         rotate_left
         ·intro w'
          go_simp
          with_reducible rfl
         rotate_left
         ·simp only [Act.put,List.setIfInBounds_toArray,List.set_cons_zero,List.set_cons_succ,i64_w,i32_w]
          rfl
         refine pure_ (i:=9) (N:=some 53) (v:=?_) (a':=?_) #[true,true,true,true,true,true,true,true,false,true,false,false,false,false,false] rfl rfl (any_of HT_.out (by kernel_rfl)) (fun _ _ _ h=>h) (Or.inl ⟨by rfl,?_⟩) ?_ ?_
         rotate_left
         ·intro w'
          go_simp
          with_reducible rfl
         rotate_left
         ·simp only [Act.put,List.setIfInBounds_toArray,List.set_cons_zero,List.set_cons_succ,i64_w,i32_w]
          rfl
         refine take_ (i:=8) (N:=some 52) (v:=?_) (a':=?_) #[true,true,true,true,true,true,true,true,true,true,false,false,false,false,false] rfl rfl (take_ofW HT_.out HW_.out (by kernel_rfl)) (fun _ _ _ h=>h) (Or.inl ⟨by rfl,?_⟩) hHeld ?_ ?_
         rotate_left
         ·rintro w' ⟨s0,s1,s2,s3⟩
          go_simp
          with_reducible rfl
         rotate_left
         ·simp only [Act.put,List.setIfInBounds_toArray,List.set_cons_zero,List.set_cons_succ,i64_w,i32_w]
          rfl
         refine take_ (i:=10) (N:=some 54) (v:=?_) (a':=?_) #[true,true,true,true,true,true,true,true,true,true,true,false,false,false,false] rfl rfl (take_ofW HT_.out HW_.out (by kernel_rfl)) (fun _ _ _ h=>h) (Or.inl ⟨by rfl,?_⟩) hHeld ?_ ?_
         rotate_left
         ·rintro w' ⟨s0,s1,s2,s3⟩
          go_simp
          with_reducible rfl
         rotate_left
         ·simp only [Act.put,List.setIfInBounds_toArray,List.set_cons_zero,List.set_cons_succ,i64_w,i32_w]
          rfl
         refine pure_ (i:=11) (N:=some 55) (v:=?_) (a':=?_) #[true,true,true,true,true,true,true,true,true,true,true,true,false,false,false] rfl rfl (any_of HT_.out (by kernel_rfl)) (fun _ _ _ h=>h) (Or.inl ⟨by rfl,?_⟩) ?_ ?_
         rotate_left
         ·intro w'
          go_simp
          with_reducible rfl
         rotate_left
         ·simp only [Act.put,List.setIfInBounds_toArray,List.set_cons_zero,List.set_cons_succ,i64_w,i32_w]
          rfl
         refine pure_ (i:=12) (N:=some 56) (v:=?_) (a':=?_) #[true,true,true,true,true,true,true,true,true,true,true,true,true,false,false] rfl rfl (any_of HT_.out (by kernel_rfl)) (fun _ _ _ h=>h) (Or.inl ⟨by rfl,?_⟩) ?_ ?_
         rotate_left
         ·intro w'
          go_simp
          with_reducible rfl
         rotate_left
         ·simp only [Act.put,List.setIfInBounds_toArray,List.set_cons_zero,List.set_cons_succ,i64_w,i32_w]
          rfl
         refine pure_ (i:=13) (N:=some 57) (v:=?_) (a':=?_) #[true,true,true,true,true,true,true,true,true,true,true,true,true,true,false] rfl rfl (any_of HT_.out (by kernel_rfl)) (fun _ _ _ h=>h) (Or.inl ⟨by rfl,?_⟩) ?_ ?_
         rotate_left
         ·intro w'
          go_simp
          with_reducible rfl
         rotate_left
         ·simp only [Act.put,List.setIfInBounds_toArray,List.set_cons_zero,List.set_cons_succ,i64_w,i32_w]
          rfl
         refine last_ (i:=14) (N:=none) #[true,true,true,true,true,true,true,true,true,true,true,true,true,true,true] rfl rfl (one_of HT_.out (by kernel_rfl)) (by decide) (fun K hK=>?_)
         refine skip_ (w1:=?_) (by rfl) rfl ?_ ?_
         rotate_left
         ·go_simp
          rfl
         refine hK.out _ _ ?_
         clear hK K
         refine done_ (done_of HT_.out (by kernel_rfl)) ?_
         try go_wp2
         go_roundg k1
         case measure=>have:=HK1.out;omega
         case rel=>exact ⟨(y245),(wrap64 (x4_1 + 1)),(by first|rfl|(simp;done)|(simp [*];done)),H',⟨by have:=HK1.out;omega⟩,⟨by (with_reducible repeat (first|apply Kd.R_alloc|apply Kd.R_drewN|apply Kd.R_drew));exact Kd.R_mono HQ24.out (fun _ hk=>trivial)⟩,⟨by repeat (first|(with_reducible first|exact HB.out|apply zbA|apply zbN|apply zb1|refine zbS ?_ GB16.out|refine zbS ?_ GE241.out)|exact HB.out)⟩⟩
        rw [if_neg c15] at H
        have c15b0:((wrap64 (((rd_T103 x3_1 (ji12)).f0) + ((rd_T103 x3_1 (ji12)).f1))) == t239)=false:=beq_eq_false_iff_ne.mpr c15
        have c15b1:((wrap64 (((rd_T103 x3_1 (ji12)).f0) + ((rd_T103 x3_1 (ji12)).f1))) != t239)=true:=bne_iff_ne.mpr c15
        by_cases c25 : x3_1.length < 8796093022208
        ·rw [if_pos c25] at H
         have LMc25:=Z0.mk c25
         clear c25
         obtain ⟨y246,hy246⟩:∃ y_:List (S103),y_=(x3_1++[(⟨t239,t240⟩:S103)]):=⟨_,rfl⟩
         replace H:(q5Join.l0 k1 l0 y246 (wrap64 (x4_1 + 1)))=some r:=by first|(rw [hy246];with_reducible exact H)|(have H2_:=(Option.bind_some _ _).symm.trans H;rw [hy246];with_reducible exact H2_)|(have H2_:=(Option.bind_some _ _).symm.trans H;with_reducible exact H2_)|with_reducible exact H|(rw [hy246];exact H)|exact H
         have Ny246:=Z0.mk hy246
         clear hy246
         have H':=Z0.mk H
         clear H
         have p238 : 0≤(x4_1:Int):=of_decide_eq_true (by first|(with_reducible assumption)|assumption)
         have q238 : x4_1 < (l0.length:Int):=of_decide_eq_true (by first|(with_reducible assumption)|assumption)
         obtain ⟨ad238,e238,hx238_0,hx238_1⟩:=at_T103 HR0.out x4_1 p238 q238
         cases e238
         replace hx238_0:=(HB.out.cell (World.block_lt_of_cell? w _ hx238_0)).trans hx238_0
         replace hx238_1:=(HB.out.cell (World.block_lt_of_cell? w _ hx238_1)).trans hx238_1
         replace p238:=eq_true p238
         replace q238:=eq_true q238
         try go_wp2_with (first|((with_reducible refine gate_callee (f:=96) rfl ?_);refine goesL_ (some 18) rfl rfl Try.func96 (by kernel_rfl) rfl #[.agg #[.int .i64 ((rd_T103 l0 x4_1).f0),.int .i64 ((rd_T103 l0 x4_1).f1)]] rfl (by (try simp only [List.map_toArray,List.map_cons,List.map_nil]);first|done|rfl|(simp only [List.length_drop,List.length_take];rfl)) ?_;(with_reducible refine (q5clip.calls k1 ((rd_T103 l0 x4_1).f0) ((rd_T103 l0 x4_1).f1) t239 t240 _ A6.out).mono ?_);rintro e w26 ⟨rfl,hb⟩;refine ⟨_,rfl,?_⟩;have n0_:=Z0.mk (Kd.R_below (by (with_reducible repeat (first|apply Kd.R_alloc|apply Kd.R_drewN|apply Kd.R_drew));exact HO_3.out) hb);have n1_:=Z0.mk (below_step (by repeat (first|(with_reducible first|exact HB.out|apply zbA|apply zbN|apply zb1)|exact HB.out)) hb);clear HO_3;clear HB;have HO_3:=n0_;have HB:=n1_;clear n0_ n1_;(try clear hb);(try clear hb2);(try clear hk);(try clear hi))|((with_reducible refine gate_dst (N:=5) rfl ?_);refine box_event ?hg (N:=5) ?hd (cs:=#[.int .i64 0,.int .i64 0]) (t:=103) ?hr ?_;(case hd=>rfl);(case hg=>rfl);(case hr=>first|(go_simp;done)|(go_simp;rfl));intro gb241 hg w27 hbox hb;have n0_:=Z0.mk (Kd.R_below (Kd.R_elderB (by (with_reducible repeat (first|apply Kd.R_alloc|apply Kd.R_drewN|apply Kd.R_drew));exact HO_3.out) gb241 (Nat.le_of_eq hg.symm)) hb);have n1_:=Z0.mk (below_step (by repeat (first|(with_reducible first|exact HB.out|apply zbA|apply zbN|apply zb1)|exact HB.out)) hb);have n2_:=Z0.mk (hbox);have n3_:=Z0.mk ((by rw [hg];exact (below_size (by repeat (first|(with_reducible first|exact HB.out|apply zbA|apply zbN|apply zb1)|exact HB.out))) : w.heap.size≤gb241));have n4_:=Z0.mk ((by rw [hg];exact (below_size (by repeat (first|(with_reducible first|exact HB.out|apply zbA|apply zbN|apply zb1)|exact HB.out))) : w.heap.size≤gb241));clear HO_3;clear HB;have HO_3:=n0_;have HB:=n1_;have BK241:=n2_;have GW241:=n3_;have GE241:=n4_;clear n0_ n1_ n2_ n3_ n4_;clear hb hbox hg;have hcz28_0 : w27.cell? ⟨gb241,0,none⟩=some (.int .i64 0):=(zkC BK241.out 0).trans rfl;have hcz28_1 : w27.cell? ⟨gb241,1,none⟩=some (.int .i64 0):=(zkC BK241.out 1).trans rfl;have hfz28_0:=zkF BK241.out 0;have hfz28_1:=zkF BK241.out 1;obtain ⟨Ao29,co29,eo29⟩:=Kd.R_slice HO_3.out;subst eo29))
         have n0_:Z0 (Kd.R k103 103 ((w27.setCell ⟨gb241,0,none⟩ (.int .i64 t239)).setCell ⟨gb241,1,none⟩ (.int .i64 t240)) w.heap.size (fun k_=>k_ ≠ gb241) (.slice Ao29 x3_1.length co29) x3_1):=⟨by (with_reducible repeat (first|apply Kd.R_alloc|apply Kd.R_drewN|apply Kd.R_drew));exact Kd.R_mono (Kd.R_far (p:=⟨gb241,1,none⟩) (Kd.R_far (p:=⟨gb241,0,none⟩) (Kd.R_mono HO_3.out (fun k_ hk=>(⟨hk,hk.2⟩ : _∧k_ ≠ gb241))) (fun _ hk=>hk.2) (.int .i64 t239)) (fun _ hk=>hk.2) (.int .i64 t240)) (fun _ hk=>hk.1.2)⟩
         have n1_:Z0 (((w27.setCell ⟨gb241,0,none⟩ (.int .i64 t239)).setCell ⟨gb241,1,none⟩ (.int .i64 t240)).heap[gb241]?=some (.cells #[.int .i64 t239,.int .i64 t240] 103 (0,0))):=⟨by (with_reducible repeat (first|refine zkN ?_ _|refine zkD ?_|refine zkA ?_ _));refine blk_put (cs:=#[.int .i64 t239,.int .i64 0]) ?_ 1 _ rfl;(with_reducible repeat (first|refine zkN ?_ _|refine zkD ?_|refine zkA ?_ _));refine blk_put (cs:=#[.int .i64 0,.int .i64 0]) ?_ 0 _ rfl;(with_reducible repeat (first|refine zkN ?_ _|refine zkD ?_|refine zkA ?_ _));exact BK241.out⟩
         have n2_:Z0 (Below w.heap.size w ((w27.setCell ⟨gb241,0,none⟩ (.int .i64 t239)).setCell ⟨gb241,1,none⟩ (.int .i64 t240))):=⟨by repeat (first|(with_reducible first|exact HB.out|apply zbA|apply zbN|apply zb1|refine zbS ?_ GE241.out)|exact HB.out)⟩
         (try clear HO_3)
         (try clear BK241)
         (try clear HB)
         generalize ((w27.setCell ⟨gb241,0,none⟩ (.int .i64 t239)).setCell ⟨gb241,1,none⟩ (.int .i64 t240))=w30 at n0_ n1_ n2_ ⊢
         have HO_3:=n0_
         have BK241:=n1_
         have HB:=n2_
         clear n0_ n1_ n2_
         have n0_:=Z0.mk (Kd.R_drew HO_3.out)
         have n1_:=Z0.mk (zkD BK241.out)
         have n2_:=Z0.mk (zb1 HB.out)
         clear HO_3
         clear BK241
         clear HB
         have HO_3:=n0_
         have BK241:=n1_
         have HB:=n2_
         clear n0_ n1_ n2_
         have p242 : 0≤((ji12):Int):=of_decide_eq_true (by first|(with_reducible assumption)|assumption)
         have q242:(ji12) < (x3_1.length:Int):=of_decide_eq_true (by first|(with_reducible assumption)|assumption)
         obtain ⟨ad242,e242,hx242_0,hx242_1⟩:=at_T103 (Kd.R_reads' HO_3.out).2.2 (ji12) p242 q242
         cases e242
         replace p242:=eq_true p242
         replace q242:=eq_true q242
         have p243 : 0≤((ji12):Int):=of_decide_eq_true (by first|(with_reducible assumption)|assumption)
         have q243:(ji12) < (x3_1.length:Int):=of_decide_eq_true (by first|(with_reducible assumption)|assumption)
         obtain ⟨ad243,e243,hx243_0,hx243_1⟩:=at_T103 (Kd.R_reads' HO_3.out).2.2 (ji12) p243 q243
         obtain rfl : ad242=ad243:=(by injection e243)
         replace p243:=eq_true p243
         replace q243:=eq_true q243
         refine start_ (n:=20) (S:=fun w'=>w'.cell? ⟨gb241,0,none⟩=some (.int .i64 t239)∧w'.cell? ⟨gb241,1,none⟩=some (.int .i64 t240)∧w'.cell? (ad242.add (((ji12)).toNat * 2))=some (.int .i64 ((rd_T103 x3_1 (ji12)).f0))∧w'.cell? ⟨(ad242.add (((ji12)).toNat * 2)).block,(ad242.add (((ji12)).toNat * 2)).off + 1,none⟩=some (.int .i64 ((rd_T103 x3_1 (ji12)).f1))∧w'.cell? (ad242.add (((ji12)).toNat * 2))=some (.int .i64 ((rd_T103 x3_1 (ji12)).f0))∧w'.cell? ⟨(ad242.add (((ji12)).toNat * 2)).block,(ad242.add (((ji12)).toNat * 2)).off + 1,none⟩=some (.int .i64 ((rd_T103 x3_1 (ji12)).f1))) (ds:=[]) #[false,false,false,false,false,false,false,false,false,false,false,false,false,false,false,false,false,false,false,false] (by kernel_rfl) rfl rfl ⟨(zkC BK241.out 0).trans rfl,(zkC BK241.out 1).trans rfl,hx242_0,hx242_1,hx243_0,hx243_1⟩ (fun hHeld=>?_);refine with_tabW q5Join.tab8 q5Join.bits8 (fun HT_ HW_=>?_)
         generalize w30.drew=w31 at HO_3 BK241 HB hx242_0 hx242_1 hx243_0 hx243_1 hHeld ⊢
         refine pure_ (i:=0) (N:=some 24) (v:=?_) (a':=?_) #[true,false,false,false,false,false,false,false,false,false,false,false,false,false,false,false,false,false,false,false] rfl rfl (any_of HT_.out (by kernel_rfl)) (fun _ _ _ h=>h) (Or.inl ⟨by rfl,?_⟩) ?_ ?_
         rotate_left
         ·intro w'
          go_simp
          with_reducible rfl
         rotate_left
         ·simp only [Act.put,List.setIfInBounds_toArray,List.set_cons_zero,List.set_cons_succ,i64_w,i32_w]
          rfl
         refine pure_ (i:=1) (N:=some 25) (v:=?_) (a':=?_) #[true,true,false,false,false,false,false,false,false,false,false,false,false,false,false,false,false,false,false,false] rfl rfl (any_of HT_.out (by kernel_rfl)) (fun _ _ _ h=>h) (Or.inl ⟨by rfl,?_⟩) ?_ ?_
         rotate_left
         ·intro w'
          go_simp
          with_reducible rfl
         rotate_left
         ·simp only [Act.put,List.setIfInBounds_toArray,List.set_cons_zero,List.set_cons_succ,i64_w,i32_w]
          rfl
         refine pure_ (i:=2) (N:=some 26) (v:=?_) (a':=?_) #[true,true,true,false,false,false,false,false,false,false,false,false,false,false,false,false,false,false,false,false] rfl rfl (any_of HT_.out (by kernel_rfl)) (fun _ _ _ h=>h) (Or.inl ⟨by rfl,?_⟩) ?_ ?_
         rotate_left
         ·intro w'
          go_simp
          with_reducible rfl
         rotate_left
         ·simp only [Act.put,List.setIfInBounds_toArray,List.set_cons_zero,List.set_cons_succ,i64_w,i32_w]
          rfl
         refine pure_ (i:=3) (N:=some 27) (v:=?_) (a':=?_) #[true,true,true,true,false,false,false,false,false,false,false,false,false,false,false,false,false,false,false,false] rfl rfl (any_of HT_.out (by kernel_rfl)) (fun _ _ _ h=>h) (Or.inl ⟨by rfl,?_⟩) ?_ ?_
         rotate_left
         ·intro w'
          go_simp
          with_reducible rfl
         rotate_left
         ·simp only [Act.put,List.setIfInBounds_toArray,List.set_cons_zero,List.set_cons_succ,i64_w,i32_w]
          rfl
         refine pure_ (i:=4) (N:=some 28) (v:=?_) (a':=?_) #[true,true,true,true,true,false,false,false,false,false,false,false,false,false,false,false,false,false,false,false] rfl rfl (any_of HT_.out (by kernel_rfl)) (fun _ _ _ h=>h) (Or.inl ⟨by rfl,?_⟩) ?_ ?_
         rotate_left
         ·intro w'
          go_simp
          with_reducible rfl
         rotate_left
         ·simp only [Act.put,List.setIfInBounds_toArray,List.set_cons_zero,List.set_cons_succ,i64_w,i32_w]
          rfl
         refine pure_ (i:=5) (N:=some 29) (v:=?_) (a':=?_) #[true,true,true,true,true,true,false,false,false,false,false,false,false,false,false,false,false,false,false,false] rfl rfl (any_of HT_.out (by kernel_rfl)) (fun _ _ _ h=>h) (Or.inl ⟨by rfl,?_⟩) ?_ ?_
         rotate_left
         ·intro w'
          go_simp
          with_reducible rfl
         rotate_left
         ·simp only [Act.put,List.setIfInBounds_toArray,List.set_cons_zero,List.set_cons_succ,i64_w,i32_w]
          rfl
         refine pure_ (i:=6) (N:=some 30) (v:=?_) (a':=?_) #[true,true,true,true,true,true,true,false,false,false,false,false,false,false,false,false,false,false,false,false] rfl rfl (any_of HT_.out (by kernel_rfl)) (fun _ _ _ h=>h) (Or.inl ⟨by rfl,?_⟩) ?_ ?_
         rotate_left
         ·intro w'
          go_simp
          with_reducible rfl
         rotate_left
         ·simp only [Act.put,List.setIfInBounds_toArray,List.set_cons_zero,List.set_cons_succ,i64_w,i32_w]
          rfl
         refine pure_ (i:=7) (N:=some 31) (v:=?_) (a':=?_) #[true,true,true,true,true,true,true,true,false,false,false,false,false,false,false,false,false,false,false,false] rfl rfl (any_of HT_.out (by kernel_rfl)) (fun _ _ _ h=>h) (Or.inl ⟨by rfl,?_⟩) ?_ ?_
         rotate_left
         ·intro w'
          go_simp
          with_reducible rfl
         rotate_left
         ·simp only [Act.put,List.setIfInBounds_toArray,List.set_cons_zero,List.set_cons_succ,i64_w,i32_w]
          rfl
         refine pure_ (i:=9) (N:=some 33) (v:=?_) (a':=?_) #[true,true,true,true,true,true,true,true,false,true,false,false,false,false,false,false,false,false,false,false] rfl rfl (any_of HT_.out (by kernel_rfl)) (fun _ _ _ h=>h) (Or.inl ⟨by rfl,?_⟩) ?_ ?_
         rotate_left
         ·intro w'
          go_simp
          with_reducible rfl
         rotate_left
         ·simp only [Act.put,List.setIfInBounds_toArray,List.set_cons_zero,List.set_cons_succ,i64_w,i32_w]
          rfl
         refine pure_ (i:=10) (N:=some 34) (v:=?_) (a':=?_) #[true,true,true,true,true,true,true,true,false,true,true,false,false,false,false,false,false,false,false,false] rfl rfl (any_of HT_.out (by kernel_rfl)) (fun _ _ _ h=>h) (Or.inl ⟨by rfl,?_⟩) ?_ ?_
         rotate_left
         ·intro w'
          go_simp
          with_reducible rfl
         rotate_left
         ·simp only [Act.put,List.setIfInBounds_toArray,List.set_cons_zero,List.set_cons_succ,i64_w,i32_w]
          rfl
         refine pure_ (i:=11) (N:=some 35) (v:=?_) (a':=?_) #[true,true,true,true,true,true,true,true,false,true,true,true,false,false,false,false,false,false,false,false] rfl rfl (any_of HT_.out (by kernel_rfl)) (fun _ _ _ h=>h) (Or.inl ⟨by rfl,?_⟩) ?_ ?_
         rotate_left
         ·intro w'
          go_simp
          with_reducible rfl
         rotate_left
         ·simp only [Act.put,List.setIfInBounds_toArray,List.set_cons_zero,List.set_cons_succ,i64_w,i32_w]
          rfl
         refine pure_ (i:=12) (N:=some 36) (v:=?_) (a':=?_) #[true,true,true,true,true,true,true,true,false,true,true,true,true,false,false,false,false,false,false,false] rfl rfl (any_of HT_.out (by kernel_rfl)) (fun _ _ _ h=>h) (Or.inl ⟨by rfl,?_⟩) ?_ ?_
         rotate_left
         ·intro w'
          go_simp
          with_reducible rfl
         rotate_left
         ·simp only [Act.put,List.setIfInBounds_toArray,List.set_cons_zero,List.set_cons_succ,i64_w,i32_w]
          rfl
         refine pure_ (i:=13) (N:=some 37) (v:=?_) (a':=?_) #[true,true,true,true,true,true,true,true,false,true,true,true,true,true,false,false,false,false,false,false] rfl rfl (any_of HT_.out (by kernel_rfl)) (fun _ _ _ h=>h) (Or.inl ⟨by rfl,?_⟩) ?_ ?_
         rotate_left
         ·intro w'
          go_simp
          with_reducible rfl
         rotate_left
         ·simp only [Act.put,List.setIfInBounds_toArray,List.set_cons_zero,List.set_cons_succ,i64_w,i32_w]
          rfl
         refine pure_ (i:=16) (N:=some 40) (v:=?_) (a':=?_) #[true,true,true,true,true,true,true,true,false,true,true,true,true,true,false,false,true,false,false,false] rfl rfl (any_of HT_.out (by kernel_rfl)) (fun _ _ _ h=>h) (Or.inl ⟨by rfl,?_⟩) ?_ ?_
         rotate_left
         ·intro w'
          go_simp
          with_reducible rfl
         rotate_left
         ·simp only [Act.put,List.setIfInBounds_toArray,List.set_cons_zero,List.set_cons_succ,i64_w,i32_w]
          rfl
         refine take_ (i:=8) (N:=some 32) (v:=?_) (a':=?_) #[true,true,true,true,true,true,true,true,true,true,true,true,true,true,false,false,true,false,false,false] rfl rfl (take_ofW HT_.out HW_.out (by kernel_rfl)) (fun _ _ _ h=>h) (Or.inl ⟨by rfl,?_⟩) hHeld ?_ ?_
         rotate_left
         ·rintro w' ⟨s0,s1,s2,s3,s4,s5⟩
          go_simp
          with_reducible rfl
         rotate_left
         ·simp only [Act.put,List.setIfInBounds_toArray,List.set_cons_zero,List.set_cons_succ,i64_w,i32_w]
          rfl
         refine take_ (i:=14) (N:=some 38) (v:=?_) (a':=?_) #[true,true,true,true,true,true,true,true,true,true,true,true,true,true,true,false,true,false,false,false] rfl rfl (take_ofW HT_.out HW_.out (by kernel_rfl)) (fun _ _ _ h=>h) (Or.inl ⟨by rfl,?_⟩) hHeld ?_ ?_
         rotate_left
         ·rintro w' ⟨s0,s1,s2,s3,s4,s5⟩
          go_simp
          with_reducible rfl
         rotate_left
         ·simp only [Act.put,List.setIfInBounds_toArray,List.set_cons_zero,List.set_cons_succ,i64_w,i32_w]
          rfl
         refine pure_ (i:=15) (N:=some 39) (v:=?_) (a':=?_) #[true,true,true,true,true,true,true,true,true,true,true,true,true,true,true,true,true,false,false,false] rfl rfl (any_of HT_.out (by kernel_rfl)) (fun _ _ _ h=>h) (Or.inl ⟨by rfl,?_⟩) ?_ ?_
         rotate_left
         ·intro w'
          go_simp
          with_reducible rfl
         rotate_left
         ·simp only [Act.put,List.setIfInBounds_toArray,List.set_cons_zero,List.set_cons_succ,i64_w,i32_w]
          rfl
         refine take_ (i:=17) (N:=some 41) (v:=?_) (a':=?_) #[true,true,true,true,true,true,true,true,true,true,true,true,true,true,true,true,true,true,false,false] rfl rfl (take_ofW HT_.out HW_.out (by kernel_rfl)) (fun _ _ _ h=>h) (Or.inl ⟨by rfl,?_⟩) hHeld ?_ ?_
         rotate_left
         ·rintro w' ⟨s0,s1,s2,s3,s4,s5⟩
          go_simp
          with_reducible rfl
         rotate_left
         ·simp only [Act.put,List.setIfInBounds_toArray,List.set_cons_zero,List.set_cons_succ,i64_w,i32_w]
          rfl
         refine pure_ (i:=18) (N:=some 42) (v:=?_) (a':=?_) #[true,true,true,true,true,true,true,true,true,true,true,true,true,true,true,true,true,true,true,false] rfl rfl (any_of HT_.out (by kernel_rfl)) (fun _ _ _ h=>h) (Or.inl ⟨by rfl,?_⟩) ?_ ?_
         rotate_left
         ·intro w'
          go_simp
          with_reducible rfl
         rotate_left
         ·simp only [Act.put,List.setIfInBounds_toArray,List.set_cons_zero,List.set_cons_succ,i64_w,i32_w]
          rfl
         refine pure_ (i:=19) (N:=some 43) (v:=?_) (a':=?_) #[true,true,true,true,true,true,true,true,true,true,true,true,true,true,true,true,true,true,true,true] rfl rfl (any_of HT_.out (by kernel_rfl)) (fun _ _ _ h=>h) (Or.inl ⟨by rfl,?_⟩) ?_ ?_
         rotate_left
         ·intro w'
          go_simp
          with_reducible rfl
         rotate_left
         ·simp only [Act.put,List.setIfInBounds_toArray,List.set_cons_zero,List.set_cons_succ,i64_w,i32_w]
          rfl
         refine done_ (done_of HT_.out (by kernel_rfl)) ?_
         have hcz32_0 : w31.cell? ⟨gb241,0,none⟩=some (.int .i64 t239):=(zkC BK241.out 0).trans rfl
         have hcz32_1 : w31.cell? ⟨gb241,1,none⟩=some (.int .i64 t240):=(zkC BK241.out 1).trans rfl
         have hfz32_0:=zkF BK241.out 0
         have hfz32_1:=zkF BK241.out 1
         try go_wp2_with (first|((with_reducible refine gate_builtin (b:=.append) (xs:=#[.tmp 58,.tmp 60]) rfl ?_);at_builtin;refine Kd.R_append k103 (w0:=w) w.heap.size rfl (.tmp 58) (.tmp 60) 35 103 (.agg #[(.int .i64 0),(.int .i64 0)]) 16 rfl Try.underlying35 info103 rfl (by decide) (by omega) (.slice (some ad242) x3_1.length co29) x3_1 (⟨t239,t240⟩:S103) [.int .i64 t239,.int .i64 t240] (fun k_=>k_ ≠ gb241) (fun _=>False) rfl rfl ?aP (fun _ hk=>hk.elim) ?aF ?aO ?aB ?aS ?aL ?_;(case aP=>exact k103_mkM _ _ _ (⟨t239,t240⟩:S103));(case aB=>exact (by repeat (first|(with_reducible first|exact HB.out|apply zbA|apply zbN|apply zb1|refine zbS ?_ GE241.out)|exact HB.out)));(case aF=>exact (fun k_ hk=>Kd.freshB (g:=gb241) (o:=.cells #[.int .i64 t239,.int .i64 t240] 103 (0,0)) (by (with_reducible repeat (first|refine zkN ?_ _|refine zkD ?_|refine zkA ?_ _));exact BK241.out) k_ hk));(case aO=>exact (by (with_reducible repeat (first|apply Kd.R_alloc|apply Kd.R_drewN|apply Kd.R_drew));exact HO_3.out));(case aS=>exact (below_size (by repeat (first|(with_reducible first|exact HB.out|apply zbA|apply zbN|apply zb1|refine zbS ?_ GE241.out)|exact HB.out))));(case aL=>have:=LMc25.out;omega);intro v247 w33 ho hb hg hat;rw [← Ny246.out] at ho;have n0_:=Z0.mk (blk_grown (g:=gb241) (o:=.cells #[.int .i64 t239,.int .i64 t240] 103 (0,0)) (by (with_reducible repeat (first|refine zkN ?_ _|refine zkD ?_|refine zkA ?_ _));exact BK241.out) hg (Kd.R_away HO_3.out (fun _ hk=>hk)));have n1_:=Z0.mk (hb);have n2_:=Z0.mk (ho);clear BK241;clear HB;clear HO_3;have BK241:=n0_;have HB:=n1_;have HO248:=n2_;clear n0_ n1_ n2_;clear ho hb hg hat))
         go_roundg k1
         case measure=>have:=HK1.out;omega
         case rel=>exact ⟨(y246),(wrap64 (x4_1 + 1)),(by first|rfl|(simp;done)|(simp [*];done)),H',⟨by have:=HK1.out;omega⟩,⟨by (with_reducible repeat (first|apply Kd.R_alloc|apply Kd.R_drewN|apply Kd.R_drew));exact Kd.R_mono HO248.out (fun _ hk=>trivial)⟩,⟨by repeat (first|(with_reducible first|exact HB.out|apply zbA|apply zbN|apply zb1|refine zbS ?_ GE241.out)|exact HB.out)⟩⟩
        rw [if_neg c25] at H
        exact absurd H (by simp)
       rw [if_neg c14] at H
       exact absurd H (by simp)
      rw [if_neg c13] at H
      exact absurd H (by simp)
     rw [if_neg c11] at H
     have c11b0 : decide (0 < (x3_1.length:Int))=false:=decide_eq_false c11
     have c11b1 : decide (0 < x3_1.length)=false:=decide_eq_false (by omega)
     clear c11
     by_cases c34 : x3_1.length < 8796093022208
     ·rw [if_pos c34] at H
      have LMc34:=Z0.mk c34
      clear c34
      obtain ⟨y249,hy249⟩:∃ y_:List (S103),y_=(x3_1++[(⟨t239,t240⟩:S103)]):=⟨_,rfl⟩
      replace H:(q5Join.l0 k1 l0 y249 (wrap64 (x4_1 + 1)))=some r:=by first|(rw [hy249];with_reducible exact H)|(have H2_:=(Option.bind_some _ _).symm.trans H;rw [hy249];with_reducible exact H2_)|(have H2_:=(Option.bind_some _ _).symm.trans H;with_reducible exact H2_)|with_reducible exact H|(rw [hy249];exact H)|exact H
      have Ny249:=Z0.mk hy249
      clear hy249
      have H':=Z0.mk H
      clear H
      have p238 : 0≤(x4_1:Int):=of_decide_eq_true (by first|(with_reducible assumption)|assumption)
      have q238 : x4_1 < (l0.length:Int):=of_decide_eq_true (by first|(with_reducible assumption)|assumption)
      obtain ⟨ad238,e238,hx238_0,hx238_1⟩:=at_T103 HR0.out x4_1 p238 q238
      cases e238
      replace hx238_0:=(HB.out.cell (World.block_lt_of_cell? w _ hx238_0)).trans hx238_0
      replace hx238_1:=(HB.out.cell (World.block_lt_of_cell? w _ hx238_1)).trans hx238_1
      replace p238:=eq_true p238
      replace q238:=eq_true q238
      try go_wp2_with (first|((with_reducible refine gate_callee (f:=96) rfl ?_);refine goesL_ (some 18) rfl rfl Try.func96 (by kernel_rfl) rfl #[.agg #[.int .i64 ((rd_T103 l0 x4_1).f0),.int .i64 ((rd_T103 l0 x4_1).f1)]] rfl (by (try simp only [List.map_toArray,List.map_cons,List.map_nil]);first|done|rfl|(simp only [List.length_drop,List.length_take];rfl)) ?_;(with_reducible refine (q5clip.calls k1 ((rd_T103 l0 x4_1).f0) ((rd_T103 l0 x4_1).f1) t239 t240 _ A6.out).mono ?_);rintro e w35 ⟨rfl,hb⟩;refine ⟨_,rfl,?_⟩;have n0_:=Z0.mk (Kd.R_below (by (with_reducible repeat (first|apply Kd.R_alloc|apply Kd.R_drewN|apply Kd.R_drew));exact HO_3.out) hb);have n1_:=Z0.mk (below_step (by repeat (first|(with_reducible first|exact HB.out|apply zbA|apply zbN|apply zb1)|exact HB.out)) hb);clear HO_3;clear HB;have HO_3:=n0_;have HB:=n1_;clear n0_ n1_;(try clear hb);(try clear hb2);(try clear hk);(try clear hi))|((with_reducible refine gate_dst (N:=5) rfl ?_);refine box_event ?hg (N:=5) ?hd (cs:=#[.int .i64 0,.int .i64 0]) (t:=103) ?hr ?_;(case hd=>rfl);(case hg=>rfl);(case hr=>first|(go_simp;done)|(go_simp;rfl));intro gb241 hg w36 hbox hb;have n0_:=Z0.mk (Kd.R_below (Kd.R_elderB (by (with_reducible repeat (first|apply Kd.R_alloc|apply Kd.R_drewN|apply Kd.R_drew));exact HO_3.out) gb241 (Nat.le_of_eq hg.symm)) hb);have n1_:=Z0.mk (below_step (by repeat (first|(with_reducible first|exact HB.out|apply zbA|apply zbN|apply zb1)|exact HB.out)) hb);have n2_:=Z0.mk (hbox);have n3_:=Z0.mk ((by rw [hg];exact (below_size (by repeat (first|(with_reducible first|exact HB.out|apply zbA|apply zbN|apply zb1)|exact HB.out))) : w.heap.size≤gb241));have n4_:=Z0.mk ((by rw [hg];exact (below_size (by repeat (first|(with_reducible first|exact HB.out|apply zbA|apply zbN|apply zb1)|exact HB.out))) : w.heap.size≤gb241));clear HO_3;clear HB;have HO_3:=n0_;have HB:=n1_;have BK241:=n2_;have GW241:=n3_;have GE241:=n4_;clear n0_ n1_ n2_ n3_ n4_;clear hb hbox hg;have hcz37_0 : w36.cell? ⟨gb241,0,none⟩=some (.int .i64 0):=(zkC BK241.out 0).trans rfl;have hcz37_1 : w36.cell? ⟨gb241,1,none⟩=some (.int .i64 0):=(zkC BK241.out 1).trans rfl;have hfz37_0:=zkF BK241.out 0;have hfz37_1:=zkF BK241.out 1;obtain ⟨Ao38,co38,eo38⟩:=Kd.R_slice HO_3.out;subst eo38))
      have n0_:Z0 (Kd.R k103 103 ((w36.setCell ⟨gb241,0,none⟩ (.int .i64 t239)).setCell ⟨gb241,1,none⟩ (.int .i64 t240)) w.heap.size (fun k_=>k_ ≠ gb241) (.slice Ao38 x3_1.length co38) x3_1):=⟨by (with_reducible repeat (first|apply Kd.R_alloc|apply Kd.R_drewN|apply Kd.R_drew));exact Kd.R_mono (Kd.R_far (p:=⟨gb241,1,none⟩) (Kd.R_far (p:=⟨gb241,0,none⟩) (Kd.R_mono HO_3.out (fun k_ hk=>(⟨hk,hk.2⟩ : _∧k_ ≠ gb241))) (fun _ hk=>hk.2) (.int .i64 t239)) (fun _ hk=>hk.2) (.int .i64 t240)) (fun _ hk=>hk.1.2)⟩
      have n1_:Z0 (((w36.setCell ⟨gb241,0,none⟩ (.int .i64 t239)).setCell ⟨gb241,1,none⟩ (.int .i64 t240)).heap[gb241]?=some (.cells #[.int .i64 t239,.int .i64 t240] 103 (0,0))):=⟨by (with_reducible repeat (first|refine zkN ?_ _|refine zkD ?_|refine zkA ?_ _));refine blk_put (cs:=#[.int .i64 t239,.int .i64 0]) ?_ 1 _ rfl;(with_reducible repeat (first|refine zkN ?_ _|refine zkD ?_|refine zkA ?_ _));refine blk_put (cs:=#[.int .i64 0,.int .i64 0]) ?_ 0 _ rfl;(with_reducible repeat (first|refine zkN ?_ _|refine zkD ?_|refine zkA ?_ _));exact BK241.out⟩
      have n2_:Z0 (Below w.heap.size w ((w36.setCell ⟨gb241,0,none⟩ (.int .i64 t239)).setCell ⟨gb241,1,none⟩ (.int .i64 t240))):=⟨by repeat (first|(with_reducible first|exact HB.out|apply zbA|apply zbN|apply zb1|refine zbS ?_ GE241.out)|exact HB.out)⟩
      (try clear HO_3)
      (try clear BK241)
      (try clear HB)
      generalize ((w36.setCell ⟨gb241,0,none⟩ (.int .i64 t239)).setCell ⟨gb241,1,none⟩ (.int .i64 t240))=w39 at n0_ n1_ n2_ ⊢
      have HO_3:=n0_
      have BK241:=n1_
      have HB:=n2_
      clear n0_ n1_ n2_
      have n0_:=Z0.mk (Kd.R_drew HO_3.out)
      have n1_:=Z0.mk (zkD BK241.out)
      have n2_:=Z0.mk (zb1 HB.out)
      clear HO_3
      clear BK241
      clear HB
      have HO_3:=n0_
      have BK241:=n1_
      have HB:=n2_
      clear n0_ n1_ n2_
      refine start_ (n:=20) (S:=fun w'=>True) (ds:=[]) #[false,false,false,false,false,false,false,false,false,false,false,false,false,false,false,false,false,false,false,false] (by kernel_rfl) rfl rfl trivial (fun hHeld=>?_);refine with_tabW q5Join.tab8 q5Join.bits8 (fun HT_ HW_=>?_)
      generalize w39.drew=w40 at HO_3 BK241 HB hHeld ⊢
      refine pure_ (i:=0) (N:=some 24) (v:=?_) (a':=?_) #[true,false,false,false,false,false,false,false,false,false,false,false,false,false,false,false,false,false,false,false] rfl rfl (any_of HT_.out (by kernel_rfl)) (fun _ _ _ h=>h) (Or.inl ⟨by rfl,?_⟩) ?_ ?_
      rotate_left
      ·intro w'
       go_simp
       with_reducible rfl
      rotate_left
      ·simp only [Act.put,List.setIfInBounds_toArray,List.set_cons_zero,List.set_cons_succ,i64_w,i32_w]
       rfl
      refine pure_ (i:=1) (N:=some 25) (v:=?_) (a':=?_) #[true,true,false,false,false,false,false,false,false,false,false,false,false,false,false,false,false,false,false,false] rfl rfl (any_of HT_.out (by kernel_rfl)) (fun _ _ _ h=>h) (Or.inl ⟨by rfl,?_⟩) ?_ ?_
      rotate_left
      ·intro w'
       go_simp
       with_reducible rfl
      rotate_left
      ·simp only [Act.put,List.setIfInBounds_toArray,List.set_cons_zero,List.set_cons_succ,i64_w,i32_w]
       rfl
      refine pure_ (i:=2) (N:=some 26) (v:=?_) (a':=?_) #[true,true,true,false,false,false,false,false,false,false,false,false,false,false,false,false,false,false,false,false] rfl rfl (any_of HT_.out (by kernel_rfl)) (fun _ _ _ h=>h) (Or.inl ⟨by rfl,?_⟩) ?_ ?_
      rotate_left
      ·intro w'
       go_simp
       with_reducible rfl
      rotate_left
      ·simp only [Act.put,List.setIfInBounds_toArray,List.set_cons_zero,List.set_cons_succ,i64_w,i32_w]
       rfl
      refine pure_ (i:=3) (N:=some 27) (v:=undef) (a':=?_) #[true,true,true,true,false,false,false,false,false,false,false,false,false,false,false,false,false,false,false,false] rfl rfl (any_of HT_.out (by kernel_rfl)) (fun _ _ _ h=>h) (Or.inr ⟨by rfl,rfl⟩) ?_ ?_
      rotate_left
      ·simp only [Act.put,List.setIfInBounds_toArray,List.set_cons_zero,List.set_cons_succ,i64_w,i32_w]
       rfl
      refine pure_ (i:=4) (N:=some 28) (v:=undef) (a':=?_) #[true,true,true,true,true,false,false,false,false,false,false,false,false,false,false,false,false,false,false,false] rfl rfl (any_of HT_.out (by kernel_rfl)) (fun _ _ _ h=>h) (Or.inr ⟨by rfl,rfl⟩) ?_ ?_
      rotate_left
      ·simp only [Act.put,List.setIfInBounds_toArray,List.set_cons_zero,List.set_cons_succ,i64_w,i32_w]
       rfl
      refine pure_ (i:=5) (N:=some 29) (v:=undef) (a':=?_) #[true,true,true,true,true,true,false,false,false,false,false,false,false,false,false,false,false,false,false,false] rfl rfl (any_of HT_.out (by kernel_rfl)) (fun _ _ _ h=>h) (Or.inr ⟨by rfl,rfl⟩) ?_ ?_
      rotate_left
      ·simp only [Act.put,List.setIfInBounds_toArray,List.set_cons_zero,List.set_cons_succ,i64_w,i32_w]
       rfl
      refine pure_ (i:=6) (N:=some 30) (v:=undef) (a':=?_) #[true,true,true,true,true,true,true,false,false,false,false,false,false,false,false,false,false,false,false,false] rfl rfl (any_of HT_.out (by kernel_rfl)) (fun _ _ _ h=>h) (Or.inr ⟨by rfl,rfl⟩) ?_ ?_
      rotate_left
      ·simp only [Act.put,List.setIfInBounds_toArray,List.set_cons_zero,List.set_cons_succ,i64_w,i32_w]
       rfl
      refine pure_ (i:=7) (N:=some 31) (v:=undef) (a':=?_) #[true,true,true,true,true,true,true,true,false,false,false,false,false,false,false,false,false,false,false,false] rfl rfl (any_of HT_.out (by kernel_rfl)) (fun _ _ _ h=>h) (Or.inr ⟨by rfl,rfl⟩) ?_ ?_
      rotate_left
      ·simp only [Act.put,List.setIfInBounds_toArray,List.set_cons_zero,List.set_cons_succ,i64_w,i32_w]
       rfl
      refine pure_ (i:=8) (N:=some 32) (v:=undef) (a':=?_) #[true,true,true,true,true,true,true,true,true,false,false,false,false,false,false,false,false,false,false,false] rfl rfl (any_of HT_.out (by kernel_rfl)) (fun _ _ _ h=>h) (Or.inr ⟨by rfl,rfl⟩) ?_ ?_
      rotate_left
      ·simp only [Act.put,List.setIfInBounds_toArray,List.set_cons_zero,List.set_cons_succ,i64_w,i32_w]
       rfl
      refine pure_ (i:=9) (N:=some 33) (v:=undef) (a':=?_) #[true,true,true,true,true,true,true,true,true,true,false,false,false,false,false,false,false,false,false,false] rfl rfl (any_of HT_.out (by kernel_rfl)) (fun _ _ _ h=>h) (Or.inr ⟨by rfl,rfl⟩) ?_ ?_
      rotate_left
      ·simp only [Act.put,List.setIfInBounds_toArray,List.set_cons_zero,List.set_cons_succ,i64_w,i32_w]
       rfl
      refine pure_ (i:=10) (N:=some 34) (v:=undef) (a':=?_) #[true,true,true,true,true,true,true,true,true,true,true,false,false,false,false,false,false,false,false,false] rfl rfl (any_of HT_.out (by kernel_rfl)) (fun _ _ _ h=>h) (Or.inr ⟨by rfl,rfl⟩) ?_ ?_
      rotate_left
      ·simp only [Act.put,List.setIfInBounds_toArray,List.set_cons_zero,List.set_cons_succ,i64_w,i32_w]
       rfl
      refine pure_ (i:=11) (N:=some 35) (v:=undef) (a':=?_) #[true,true,true,true,true,true,true,true,true,true,true,true,false,false,false,false,false,false,false,false] rfl rfl (any_of HT_.out (by kernel_rfl)) (fun _ _ _ h=>h) (Or.inr ⟨by rfl,rfl⟩) ?_ ?_
      rotate_left
      ·simp only [Act.put,List.setIfInBounds_toArray,List.set_cons_zero,List.set_cons_succ,i64_w,i32_w]
       rfl
      refine pure_ (i:=12) (N:=some 36) (v:=undef) (a':=?_) #[true,true,true,true,true,true,true,true,true,true,true,true,true,false,false,false,false,false,false,false] rfl rfl (any_of HT_.out (by kernel_rfl)) (fun _ _ _ h=>h) (Or.inr ⟨by rfl,rfl⟩) ?_ ?_
      rotate_left
      ·simp only [Act.put,List.setIfInBounds_toArray,List.set_cons_zero,List.set_cons_succ,i64_w,i32_w]
       rfl
      refine pure_ (i:=13) (N:=some 37) (v:=undef) (a':=?_) #[true,true,true,true,true,true,true,true,true,true,true,true,true,true,false,false,false,false,false,false] rfl rfl (any_of HT_.out (by kernel_rfl)) (fun _ _ _ h=>h) (Or.inr ⟨by rfl,rfl⟩) ?_ ?_
      rotate_left
      ·simp only [Act.put,List.setIfInBounds_toArray,List.set_cons_zero,List.set_cons_succ,i64_w,i32_w]
       rfl
      refine pure_ (i:=14) (N:=some 38) (v:=undef) (a':=?_) #[true,true,true,true,true,true,true,true,true,true,true,true,true,true,true,false,false,false,false,false] rfl rfl (any_of HT_.out (by kernel_rfl)) (fun _ _ _ h=>h) (Or.inr ⟨by rfl,rfl⟩) ?_ ?_
      rotate_left
      ·simp only [Act.put,List.setIfInBounds_toArray,List.set_cons_zero,List.set_cons_succ,i64_w,i32_w]
       rfl
      refine pure_ (i:=15) (N:=some 39) (v:=undef) (a':=?_) #[true,true,true,true,true,true,true,true,true,true,true,true,true,true,true,true,false,false,false,false] rfl rfl (any_of HT_.out (by kernel_rfl)) (fun _ _ _ h=>h) (Or.inr ⟨by rfl,rfl⟩) ?_ ?_
      rotate_left
      ·simp only [Act.put,List.setIfInBounds_toArray,List.set_cons_zero,List.set_cons_succ,i64_w,i32_w]
       rfl
      refine pure_ (i:=16) (N:=some 40) (v:=undef) (a':=?_) #[true,true,true,true,true,true,true,true,true,true,true,true,true,true,true,true,true,false,false,false] rfl rfl (any_of HT_.out (by kernel_rfl)) (fun _ _ _ h=>h) (Or.inr ⟨by rfl,rfl⟩) ?_ ?_
      rotate_left
      ·simp only [Act.put,List.setIfInBounds_toArray,List.set_cons_zero,List.set_cons_succ,i64_w,i32_w]
       rfl
      refine pure_ (i:=17) (N:=some 41) (v:=undef) (a':=?_) #[true,true,true,true,true,true,true,true,true,true,true,true,true,true,true,true,true,true,false,false] rfl rfl (any_of HT_.out (by kernel_rfl)) (fun _ _ _ h=>h) (Or.inr ⟨by rfl,rfl⟩) ?_ ?_
      rotate_left
      ·simp only [Act.put,List.setIfInBounds_toArray,List.set_cons_zero,List.set_cons_succ,i64_w,i32_w]
       rfl
      refine pure_ (i:=18) (N:=some 42) (v:=undef) (a':=?_) #[true,true,true,true,true,true,true,true,true,true,true,true,true,true,true,true,true,true,true,false] rfl rfl (any_of HT_.out (by kernel_rfl)) (fun _ _ _ h=>h) (Or.inr ⟨by rfl,rfl⟩) ?_ ?_
      rotate_left
      ·simp only [Act.put,List.setIfInBounds_toArray,List.set_cons_zero,List.set_cons_succ,i64_w,i32_w]
       rfl
      refine pure_ (i:=19) (N:=some 43) (v:=?_) (a':=?_) #[true,true,true,true,true,true,true,true,true,true,true,true,true,true,true,true,true,true,true,true] rfl rfl (any_of HT_.out (by kernel_rfl)) (fun _ _ _ h=>h) (Or.inl ⟨by rfl,?_⟩) ?_ ?_
      rotate_left
      ·intro w'
       go_simp
       with_reducible rfl
      rotate_left
      ·simp only [Act.put,List.setIfInBounds_toArray,List.set_cons_zero,List.set_cons_succ,i64_w,i32_w]
       rfl
      refine done_ (done_of HT_.out (by kernel_rfl)) ?_
      have hcz41_0 : w40.cell? ⟨gb241,0,none⟩=some (.int .i64 t239):=(zkC BK241.out 0).trans rfl
      have hcz41_1 : w40.cell? ⟨gb241,1,none⟩=some (.int .i64 t240):=(zkC BK241.out 1).trans rfl
      have hfz41_0:=zkF BK241.out 0
      have hfz41_1:=zkF BK241.out 1
      try go_wp2_with (first|((with_reducible refine gate_builtin (b:=.append) (xs:=#[.tmp 58,.tmp 60]) rfl ?_);at_builtin;refine Kd.R_append k103 (w0:=w) w.heap.size rfl (.tmp 58) (.tmp 60) 35 103 (.agg #[(.int .i64 0),(.int .i64 0)]) 16 rfl Try.underlying35 info103 rfl (by decide) (by omega) (.slice Ao38 x3_1.length co38) x3_1 (⟨t239,t240⟩:S103) [.int .i64 t239,.int .i64 t240] (fun k_=>k_ ≠ gb241) (fun _=>False) rfl rfl ?aP (fun _ hk=>hk.elim) ?aF ?aO ?aB ?aS ?aL ?_;(case aP=>exact k103_mkM _ _ _ (⟨t239,t240⟩:S103));(case aB=>exact (by repeat (first|(with_reducible first|exact HB.out|apply zbA|apply zbN|apply zb1|refine zbS ?_ GE241.out)|exact HB.out)));(case aF=>exact (fun k_ hk=>Kd.freshB (g:=gb241) (o:=.cells #[.int .i64 t239,.int .i64 t240] 103 (0,0)) (by (with_reducible repeat (first|refine zkN ?_ _|refine zkD ?_|refine zkA ?_ _));exact BK241.out) k_ hk));(case aO=>exact (by (with_reducible repeat (first|apply Kd.R_alloc|apply Kd.R_drewN|apply Kd.R_drew));exact HO_3.out));(case aS=>exact (below_size (by repeat (first|(with_reducible first|exact HB.out|apply zbA|apply zbN|apply zb1|refine zbS ?_ GE241.out)|exact HB.out))));(case aL=>have:=LMc34.out;omega);intro v250 w42 ho hb hg hat;rw [← Ny249.out] at ho;have n0_:=Z0.mk (blk_grown (g:=gb241) (o:=.cells #[.int .i64 t239,.int .i64 t240] 103 (0,0)) (by (with_reducible repeat (first|refine zkN ?_ _|refine zkD ?_|refine zkA ?_ _));exact BK241.out) hg (Kd.R_away HO_3.out (fun _ hk=>hk)));have n1_:=Z0.mk (hb);have n2_:=Z0.mk (ho);clear BK241;clear HB;clear HO_3;have BK241:=n0_;have HB:=n1_;have HO251:=n2_;clear n0_ n1_ n2_;clear ho hb hg hat))
      go_roundg k1
      case measure=>have:=HK1.out;omega
      case rel=>exact ⟨(y249),(wrap64 (x4_1 + 1)),(by first|rfl|(simp;done)|(simp [*];done)),H',⟨by have:=HK1.out;omega⟩,⟨by (with_reducible repeat (first|apply Kd.R_alloc|apply Kd.R_drewN|apply Kd.R_drew));exact Kd.R_mono HO251.out (fun _ hk=>trivial)⟩,⟨by repeat (first|(with_reducible first|exact HB.out|apply zbA|apply zbN|apply zb1|refine zbS ?_ GE241.out)|exact HB.out)⟩⟩
     rw [if_neg c34] at H
     exact absurd H (by simp)
    rw [if_neg c5] at H
    exact absurd H (by simp)
   rw [if_neg c4] at H
   have c4b0 : decide (x4_1 < (l0.length:Int))=false:=decide_eq_false c4
   clear c4
   obtain rfl:=Option.some.inj H
   go_wp2
   go_ret
   exact ⟨_,by first|rfl|(simp [errW_none,errW_some] <;> rfl)|(simp [*,errW_none,errW_some] <;> rfl),by (with_reducible repeat (first|apply Kd.R_alloc|apply Kd.R_drewN|apply Kd.R_drew));exact HO_3.out,by repeat (first|(with_reducible first|exact HB.out|apply zbA|apply zbN|apply zb1)|exact HB.out)⟩
end Go.Proofs.Ytegefemkmdlmaaa.P
