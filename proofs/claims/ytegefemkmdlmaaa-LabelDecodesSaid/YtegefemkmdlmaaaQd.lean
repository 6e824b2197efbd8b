import Derived.Test.YtegefemkmdlmaaaF0
import Derived.Test.YtegefemkmdlmaaaQb
section
namespace Go.Proofs.Ytegefemkmdlmaaa.P
open Go.RowKit Go.Proofs.YtegefemkmdlmaaaW.PrintWords Go.Proofs.YtegefemkmdlmaaaW.PrintLast Go.Proofs.YtegefemkmdlmaaaW.PrintMore
attribute [local go_sem] max2_int min2_int max_two min_two max_three min_three max_four min_four
set_option linter.unusedVariables false
set_option linter.unusedSimpArgs false
attribute [local go_sem high] eqA103
def api_Run.l0:Nat→List (S103)→List (S103)→Int→Int→Option (Bool)
 | 0,_,_,_,_=>none
 | k + 1,x0,x1,x12,x13=>if x13 < x12 then (if 0≤x13 then (if x13 < (x0.length:Int) then (if x13 < (x1.length:Int) then (if (!(((rd_T103 x0 x13).f0) == ((rd_T103 x1 x13).f0)) || (!(((rd_T103 x0 x13).f1) == ((rd_T103 x1 x13).f1))))=true then (some false) else (api_Run.l0 k x0 x1 x12 (wrap64 (x13 + 1)))) else (none)) else (none)) else (none)) else (some true)
def api_Run.f (k:Nat) (l0:List (S103)) (l1:List (S103)):Option (Bool):=if (l0.length:Int)=(l1.length:Int) then (api_Run.l0 k l0 l1 (l0.length:Int) 0) else (some false)
theorem api_Run.mono_l:∀ k,(∀ y0 y1 y2 y3,LeO (api_Run.l0 k y0 y1 y2 y3) (api_Run.l0 (k + 1) y0 y1 y2 y3))
 | 0=>fun _ _ _ _ r h=>by simp [api_Run.l0] at h
 | k + 1=>by
  have ih0:=api_Run.mono_l k
  ·intro y0 y1 y2 y3
   unfold api_Run.l0
   repeat' first
   | (with_reducible exact ih0 _ _ _ _)
   | (with_reducible exact LeO.refl _)
   | (with_reducible exact LeO.none _)
   | (with_reducible refine LeO.ite ?_ ?_)
   | (with_reducible refine LeO.bind ?_ (fun _=>?_))
   | exact ih0 _ _ _ _
   | exact LeO.none _
   | refine LeO.ite ?_ ?_
   | refine LeO.bind ?_ (fun _=>?_)
theorem api_Run.mono:∀ a0 a1 k,LeO (api_Run.f k a0 a1) (api_Run.f (k + 1) a0 a1):=by
 intro a0 a1 k
 have ih0:=api_Run.mono_l k
 unfold api_Run.f
 repeat' first
   | (with_reducible exact ih0 _ _ _ _)
   | (with_reducible exact LeO.refl _)
   | (with_reducible exact LeO.none _)
   | (with_reducible refine LeO.ite ?_ ?_)
   | (with_reducible refine LeO.bind ?_ (fun _=>?_))
   | exact ih0 _ _ _ _
   | exact LeO.none _
   | refine LeO.ite ?_ ?_
   | refine LeO.bind ?_ (fun _=>?_)
set_option maxHeartbeats 8000000 in
set_option maxRecDepth 100000 in
theorem api_Run.calls (k:Nat) (A0:Option Addr) (c0:Nat) (l0:List (S103)) (A1:Option Addr) (c1:Nat) (l1:List (S103)) (r:Bool) (w:World) (hr0:Kd.C k103 w A0 l0.length l0) (hc0 : l0.length≤c0) (hr1:Kd.C k103 w A1 l1.length l1) (hc1 : l1.length≤c1) (h : api_Run.f k l0 l1=some r) :
  Calls Try.prog 97 #[.slice A0 l0.length c0,.slice A1 l1.length c1] w fun e w'=>e=.returned (.bool r)∧Drawn0 w w':=by
 have hu103:=Try.underlying103
 have HR0:=Z0.mk hr0
 have HC0:=Z0.mk hc0
 clear hr0 hc0
 have HR1:=Z0.mk hr1
 have HC1:=Z0.mk hc1
 clear hr1 hc1
 have H:(if (l0.length:Int)=(l1.length:Int) then (api_Run.l0 k l0 l1 (l0.length:Int) 0) else (some false))=some r:=h
 clear h
 by_cases c3:(l0.length:Int)=(l1.length:Int)
 ·rw [if_pos c3] at H
  have c3b0:((l0.length:Int) == (l1.length:Int))=true:=beq_iff_eq.mpr c3
  have c3b1:((l0.length:Int) != (l1.length:Int))=false:=bne_eq_false_iff_eq.mpr c3
  have c3b2:(l0.length == l1.length)=true:=by first|simpa using c3|(simp at c3 ⊢;omega)
  clear c3
  have H':=Z0.mk H
  clear H
  go_enter Try.func97,Try.ntmps97
  go_wp2
  repeat (go_quiet (fail);try go_wp2)
  go_loopg [13] k (fun kq v13 w'=>∃ (x13_1:Int),v13=.int .i64 x13_1∧Z0 (api_Run.l0 kq l0 l1 (l0.length:Int) x13_1=some r)∧Z0 (kq≤k)∧Drawn0 w w')
  case atStart=>exact ⟨(0),(by first|rfl|(simp;done)|(simp [*];done)),H',⟨Nat.le_refl _⟩,by repeat (first|exact Drawn0.refl _|apply Drawn0.step)⟩
  case round =>
   clear H'
   try clear c1
   try clear p2
   try clear c3
   try clear c3b0
   try clear c3b1
   try clear c3b2
   obtain ⟨x13_1,rfl,HA,HK1,⟨m1,rfl⟩⟩:=hrel
   cases gk with
   | zero=>exact absurd HA.out (by simp [api_Run.l0])
   | succ k1 =>
    have H:=HA.out
    clear HA
    simp only [api_Run.l0] at H
    by_cases c4 : x13_1 < (l0.length:Int)
    ·rw [if_pos c4] at H
     have c4b0 : decide (x13_1 < (l0.length:Int))=true:=decide_eq_true c4
     clear c4
     by_cases c5 : 0≤x13_1
     ·rw [if_pos c5] at H
      have c5b0 : decide (0≤x13_1)=true:=decide_eq_true c5
      clear c5
      by_cases c6 : x13_1 < (l0.length:Int)
      ·rw [if_pos c6] at H
       have c6b0 : decide (x13_1 < (l0.length:Int))=true:=decide_eq_true c6
       clear c6
       by_cases c7 : x13_1 < (l1.length:Int)
       ·rw [if_pos c7] at H
        have c7b0 : decide (x13_1 < (l1.length:Int))=true:=decide_eq_true c7
        clear c7
        by_cases c8:(!(((rd_T103 l0 x13_1).f0) == ((rd_T103 l1 x13_1).f0)) || (!(((rd_T103 l0 x13_1).f1) == ((rd_T103 l1 x13_1).f1))))=true
        ·rw [if_pos c8] at H
         have c8b0:(!(((rd_T103 l0 x13_1).f0) == ((rd_T103 l1 x13_1).f0)) || (!(((rd_T103 l0 x13_1).f1) == ((rd_T103 l1 x13_1).f1))))=true:=c8
         clear c8
         obtain rfl:=Option.some.inj H
         have p343 : 0≤(x13_1:Int):=of_decide_eq_true (by first|(with_reducible assumption)|assumption)
         have q343 : x13_1 < (l0.length:Int):=of_decide_eq_true (by first|(with_reducible assumption)|assumption)
         obtain ⟨ad343,e343,hx343_0,hx343_1⟩:=at_T103 HR0.out x13_1 p343 q343
         cases e343
         replace p343:=eq_true p343
         replace q343:=eq_true q343
         have p344 : 0≤(x13_1:Int):=of_decide_eq_true (by first|(with_reducible assumption)|assumption)
         have q344 : x13_1 < (l1.length:Int):=of_decide_eq_true (by first|(with_reducible assumption)|assumption)
         obtain ⟨ad344,e344,hx344_0,hx344_1⟩:=at_T103 HR1.out x13_1 p344 q344
         cases e344
         replace p344:=eq_true p344
         replace q344:=eq_true q344
         go_wp2
         repeat (go_quiet (fail);try go_wp2)
         go_ret
         exact ⟨by first|rfl|(simp;done)|(simp [*];done),by repeat (first|exact Drawn0.refl _|apply Drawn0.step)⟩
        rw [if_neg c8] at H
        have c8b0:(!(((rd_T103 l0 x13_1).f0) == ((rd_T103 l1 x13_1).f0)) || (!(((rd_T103 l0 x13_1).f1) == ((rd_T103 l1 x13_1).f1))))=false:=by simpa using c8
        clear c8
        have H':=Z0.mk H
        clear H
        have p343 : 0≤(x13_1:Int):=of_decide_eq_true (by first|(with_reducible assumption)|assumption)
        have q343 : x13_1 < (l0.length:Int):=of_decide_eq_true (by first|(with_reducible assumption)|assumption)
        obtain ⟨ad343,e343,hx343_0,hx343_1⟩:=at_T103 HR0.out x13_1 p343 q343
        cases e343
        replace p343:=eq_true p343
        replace q343:=eq_true q343
        have p344 : 0≤(x13_1:Int):=of_decide_eq_true (by first|(with_reducible assumption)|assumption)
        have q344 : x13_1 < (l1.length:Int):=of_decide_eq_true (by first|(with_reducible assumption)|assumption)
        obtain ⟨ad344,e344,hx344_0,hx344_1⟩:=at_T103 HR1.out x13_1 p344 q344
        cases e344
        replace p344:=eq_true p344
        replace q344:=eq_true q344
        go_wp2
        repeat (go_quiet (fail);try go_wp2)
        go_roundg k1
        case measure=>have:=HK1.out;omega
        case rel=>exact ⟨(wrap64 (x13_1 + 1)),(by first|rfl|(simp;done)|(simp [*];done)),H',⟨by have:=HK1.out;omega⟩,by repeat (first|exact Drawn0.refl _|apply Drawn0.step)⟩
       rw [if_neg c7] at H
       exact absurd H (by simp)
      rw [if_neg c6] at H
      exact absurd H (by simp)
     rw [if_neg c5] at H
     exact absurd H (by simp)
    rw [if_neg c4] at H
    have c4b0 : decide (x13_1 < (l0.length:Int))=false:=decide_eq_false c4
    clear c4
    obtain rfl:=Option.some.inj H
    go_wp2
    repeat (go_quiet (fail);try go_wp2)
    go_ret
    exact ⟨by first|rfl|(simp;done)|(simp [*];done),by repeat (first|exact Drawn0.refl _|apply Drawn0.step)⟩
 rw [if_neg c3] at H
 have c3b0:((l0.length:Int) == (l1.length:Int))=false:=beq_eq_false_iff_ne.mpr c3
 have c3b1:((l0.length:Int) != (l1.length:Int))=true:=bne_iff_ne.mpr c3
 have c3b2:(l0.length == l1.length)=false:=by first|simpa using c3|(simp at c3 ⊢;omega)
 obtain rfl:=Option.some.inj H
 go_enter Try.func97,Try.ntmps97
 go_wp2
 repeat (go_quiet (fail);try go_wp2)
 go_ret
 exact ⟨by first|rfl|(simp;done)|(simp [*];done),by repeat (first|exact Drawn0.refl _|apply Drawn0.step)⟩
end Go.Proofs.Ytegefemkmdlmaaa.P
end
section
namespace Go.Proofs.Ytegefemkmdlmaaa.P
open Go.RowKit Go.Proofs.YtegefemkmdlmaaaW.PrintWords Go.Proofs.YtegefemkmdlmaaaW.PrintLast Go.Proofs.YtegefemkmdlmaaaW.PrintMore
attribute [local go_sem] max2_int min2_int max_two min_two max_three min_three max_four min_four
set_option linter.unusedVariables false
set_option linter.unusedSimpArgs false
def extent_Size.l0:Nat→Int→List (S103)→Int→Int→Option (Int)
 | 0,_,_,_,_=>none
 | k + 1,x3,x6,x7,x8=>if x8 < x7 then (if 0≤x8 then (if x8 < (x6.length:Int) then ((extent_clip.f k ((rd_T103 x6 x8).f0) ((rd_T103 x6 x8).f1)).bind fun bt493=>(extent_Size.l0 k (wrap64 (x3 + bt493.2)) x6 x7 (wrap64 (x8 + 1)))) else (none)) else (none)) else (some x3)
def extent_Size.f (k:Nat) (l0:List (S103)):Option (Int):=extent_Size.l0 k 0 l0 (l0.length:Int) 0
set_option maxHeartbeats 8000000 in
set_option maxRecDepth 100000 in
theorem extent_Size.calls (k:Nat) (A0:Option Addr) (c0:Nat) (l0:List (S103)) (r:Int) (w:World) (hr0:Kd.C k103 w A0 l0.length l0) (hc0 : l0.length≤c0) (h : extent_Size.f k l0=some r) :
  Calls Try.prog 54 #[.slice A0 l0.length c0] w fun e w'=>e=.returned (.int .i64 r)∧Below w.heap.size w w':=by
 have hu103:=Try.underlying103
 have hfd:∀ (x y:Int) (W:World),(Instr.field 103 (.agg #[.int .i64 x,.int .i64 y]) 1).run Try.prog W=.ok (.int .i64 y) W:=fun _ _ _=>by first|rfl|kernel_rfl|(simp [Instr.field,go_sem])
 have HR0:=Z0.mk hr0
 have HC0:=Z0.mk hc0
 clear hr0 hc0
 have HB:=Z0.mk (Below.refl w.heap.size w)
 have H:(extent_Size.l0 k 0 l0 (l0.length:Int) 0)=some r:=h
 clear h
 have H':=Z0.mk H
 clear H
 go_enter Try.func54,Try.ntmps54
 go_wp2
 go_loopg [3,8] k (fun kq v3 v8 w'=>∃ (x3_1:Int) (x8_1:Int),v3=.int .i64 x3_1∧v8=.int .i64 x8_1∧Z0 (extent_Size.l0 kq x3_1 l0 (l0.length:Int) x8_1=some r)∧Z0 (kq≤k)∧Z0 (Below w.heap.size w w'))
 case atStart=>exact ⟨(0),(0),(by first|rfl|(simp;done)|(simp [*];done)),(by first|rfl|(simp;done)|(simp [*];done)),H',⟨Nat.le_refl _⟩,⟨by repeat (first|(with_reducible first|exact HB.out|apply zbA|apply zbN|apply zb1)|exact HB.out)⟩⟩
 case round =>
  clear H'
  obtain ⟨x3_1,x8_1,rfl,rfl,HA,HK1,HB⟩:=hrel
  cases gk with
  | zero=>exact absurd HA.out (by simp [extent_Size.l0])
  | succ k1 =>
   have H:=HA.out
   clear HA
   simp only [extent_Size.l0] at H
   by_cases c2 : x8_1 < (l0.length:Int)
   ·rw [if_pos c2] at H
    have c2b0 : decide (x8_1 < (l0.length:Int))=true:=decide_eq_true c2
    clear c2
    by_cases c3 : 0≤x8_1
    ·rw [if_pos c3] at H
     have c3b0 : decide (0≤x8_1)=true:=decide_eq_true c3
     clear c3
     by_cases c4 : x8_1 < (l0.length:Int)
     ·rw [if_pos c4] at H
      have c4b0 : decide (x8_1 < (l0.length:Int))=true:=decide_eq_true c4
      clear c4
      replace H:=Option.bind_eq_some_iff.mp H
      obtain ⟨⟨t493,t494⟩,A50,H⟩:=H
      replace H:(extent_Size.l0 k1 (wrap64 (x3_1 + t494)) l0 (l0.length:Int) (wrap64 (x8_1 + 1)))=some r:=H
      have A5:=Z0.mk A50
      clear A50
      have H':=Z0.mk H
      clear H
      have p491 : 0≤(x8_1:Int):=of_decide_eq_true (by first|(with_reducible assumption)|assumption)
      have q491 : x8_1 < (l0.length:Int):=of_decide_eq_true (by first|(with_reducible assumption)|assumption)
      obtain ⟨ad491,e491,hx491_0,hx491_1⟩:=at_T103 HR0.out x8_1 p491 q491
      cases e491
      replace hx491_0:=(HB.out.cell (World.block_lt_of_cell? w _ hx491_0)).trans hx491_0
      replace hx491_1:=(HB.out.cell (World.block_lt_of_cell? w _ hx491_1)).trans hx491_1
      replace p491:=eq_true p491
      replace q491:=eq_true q491
      go_wp2_with (first|((with_reducible refine gate_dst (N:=5) rfl ?_);refine box_event ?hg (N:=5) ?hd (cs:=#[.int .i64 0,.int .i64 0]) (t:=103) ?hr ?_;(case hd=>rfl);(case hg=>rfl);(case hr=>first|(go_simp;done)|(go_simp;rfl));intro gb492 hg w6 hbox hb;have n0_:=Z0.mk (below_step (by repeat (first|(with_reducible first|exact HB.out|apply zbA|apply zbN|apply zb1)|exact HB.out)) hb);have n1_:=Z0.mk (hbox);have n2_:=Z0.mk ((by rw [hg];exact (below_size (by repeat (first|(with_reducible first|exact HB.out|apply zbA|apply zbN|apply zb1)|exact HB.out))) : w.heap.size≤gb492));have n3_:=Z0.mk ((by rw [hg];exact (below_size (by repeat (first|(with_reducible first|exact HB.out|apply zbA|apply zbN|apply zb1)|exact HB.out))) : w.heap.size≤gb492));clear HB;have HB:=n0_;have BK492:=n1_;have GW492:=n2_;have GE492:=n3_;clear n0_ n1_ n2_ n3_;clear hb hbox hg;have hcz7_0 : w6.cell? ⟨gb492,0,none⟩=some (.int .i64 0):=(zkC BK492.out 0).trans rfl;have hcz7_1 : w6.cell? ⟨gb492,1,none⟩=some (.int .i64 0):=(zkC BK492.out 1).trans rfl;have hfz7_0:=zkF BK492.out 0;have hfz7_1:=zkF BK492.out 1)|((with_reducible refine gate_callee (f:=95) rfl ?_);refine goesL_ (some 14) rfl rfl Try.func95 (by kernel_rfl) rfl #[.agg #[.int .i64 ((rd_T103 l0 x8_1).f0),.int .i64 ((rd_T103 l0 x8_1).f1)]] rfl (by (try simp only [List.map_toArray,List.map_cons,List.map_nil]);first|done|rfl|(simp only [List.length_drop,List.length_take];rfl)) ?_;(with_reducible refine (extent_clip.calls k1 ((rd_T103 l0 x8_1).f0) ((rd_T103 l0 x8_1).f1) t493 t494 _ A5.out).mono ?_);rintro e w8 ⟨rfl,hb⟩;refine ⟨_,rfl,?_⟩;have n0_:=Z0.mk (blk_below (g:=gb492) (o:=.cells #[.int .i64 ((rd_T103 l0 x8_1).f0),.int .i64 ((rd_T103 l0 x8_1).f1)] 103 (0,0)) (by (with_reducible repeat (first|refine zkN ?_ _|refine zkD ?_|refine zkA ?_ _));refine blk_put (cs:=#[.int .i64 ((rd_T103 l0 x8_1).f0),.int .i64 0]) ?_ 1 _ rfl;(with_reducible repeat (first|refine zkN ?_ _|refine zkD ?_|refine zkA ?_ _));refine blk_put (cs:=#[.int .i64 0,.int .i64 0]) ?_ 0 _ rfl;(with_reducible repeat (first|refine zkN ?_ _|refine zkD ?_|refine zkA ?_ _));exact BK492.out) hb);have n1_:=Z0.mk (below_step (by repeat (first|(with_reducible first|exact HB.out|apply zbA|apply zbN|apply zb1|refine zbS ?_ GE492.out)|exact HB.out)) hb);clear BK492;clear HB;have BK492:=n0_;have HB:=n1_;clear n0_ n1_;(try clear hb);(try clear hb2);(try clear hk);(try clear hi)))
      go_roundg k1
      case measure=>have:=HK1.out;omega
      case rel=>exact ⟨(wrap64 (x3_1 + t494)),(wrap64 (x8_1 + 1)),(by first|rfl|(simp;done)|(simp [*];done)),(by first|rfl|(simp;done)|(simp [*];done)),H',⟨by have:=HK1.out;omega⟩,⟨by repeat (first|(with_reducible first|exact HB.out|apply zbA|apply zbN|apply zb1|refine zbS ?_ GE492.out)|exact HB.out)⟩⟩
     rw [if_neg c4] at H
     exact absurd H (by simp)
    rw [if_neg c3] at H
    exact absurd H (by simp)
   rw [if_neg c2] at H
   have c2b0 : decide (x8_1 < (l0.length:Int))=false:=decide_eq_false c2
   clear c2
   obtain rfl:=Option.some.inj H
   go_wp2
   go_ret
   exact ⟨by first|rfl|(simp [errW_none,errW_some] <;> rfl)|(simp [*,errW_none,errW_some] <;> rfl),by repeat (first|(with_reducible first|exact HB.out|apply zbA|apply zbN|apply zb1)|exact HB.out)⟩
end Go.Proofs.Ytegefemkmdlmaaa.P
end
section
namespace Go.Proofs.Ytegefemkmdlmaaa.P
open Go.RowKit Go.Proofs.YtegefemkmdlmaaaW.PrintWords Go.Proofs.YtegefemkmdlmaaaW.PrintLast Go.Proofs.YtegefemkmdlmaaaW.PrintMore
attribute [local go_sem] max2_int min2_int max_two min_two max_three min_three max_four min_four
set_option linter.unusedVariables false
set_option linter.unusedSimpArgs false
def extent_Disjoint.f (k:Nat) (l0:List (S103)):Option (Bool):=(extent_Size.f k l0).bind fun t495=>((extent_Normal.f l0).bind fun t496=>((extent_Size.f k t496).bind fun t499=>(some (t495 == t499))))
set_option maxHeartbeats 8000000 in
set_option maxRecDepth 100000 in
theorem extent_Disjoint.calls (k:Nat) (A0:Option Addr) (c0:Nat) (l0:List (S103)) (r:Bool) (w:World) (hr0:Kd.C k103 w A0 l0.length l0) (hc0 : l0.length≤c0) (h : extent_Disjoint.f k l0=some r) :
  Calls Try.prog 56 #[.slice A0 l0.length c0] w fun e w'=>e=.returned (.bool r)∧Below w.heap.size w w':=by
 have HR0:=Z0.mk hr0
 have HC0:=Z0.mk hc0
 clear hr0 hc0
 have HB:=Z0.mk (Below.refl w.heap.size w)
 have H:((extent_Size.f k l0).bind fun t495=>((extent_Normal.f l0).bind fun t496=>((extent_Size.f k t496).bind fun t499=>(some (t495 == t499)))))=some r:=h
 clear h
 replace H:=Option.bind_eq_some_iff.mp H
 obtain ⟨t495,A20,H⟩:=H
 replace H:((extent_Normal.f l0).bind fun t496=>((extent_Size.f k t496).bind fun t499=>(some (t495 == t499))))=some r:=H
 have A2:=Z0.mk A20
 clear A20
 replace H:=Option.bind_eq_some_iff.mp H
 obtain ⟨t496,A30,H⟩:=H
 replace H:((extent_Size.f k t496).bind fun t499=>(some (t495 == t499)))=some r:=H
 have A3:=Z0.mk A30
 clear A30
 replace H:=Option.bind_eq_some_iff.mp H
 obtain ⟨t499,A40,H⟩:=H
 replace H:(some (t495 == t499))=some r:=H
 have A4:=Z0.mk A40
 clear A40
 obtain rfl:=Option.some.inj H
 go_enter Try.func56,Try.ntmps56
 go_wp2_with (first|((with_reducible refine gate_callee (f:=54) rfl ?_);refine goesL_ (some 4) rfl rfl Try.func54 (by kernel_rfl) rfl #[.slice A0 l0.length c0] rfl (by (try simp only [List.map_toArray,List.map_cons,List.map_nil]);first|done|rfl|(simp only [List.length_drop,List.length_take];rfl)) ?_;(with_reducible refine (extent_Size.calls k _ _ l0 t495 _ ?side1 ?side2 A2.out).mono ?_);(case side1=>repeat (first|exact HR0.out|(with_reducible refine Kd.C_alloc ?_ _)|(with_reducible refine Kd.C_drewN ?_ _)|(with_reducible refine Kd.C_drew ?_)));(case side2=>exact HC0.out);rintro e w5 ⟨rfl,hb⟩;refine ⟨_,rfl,?_⟩;have n0_:=Z0.mk (below_step (by repeat (first|(with_reducible first|exact HB.out|apply zbA|apply zbN|apply zb1)|exact HB.out)) hb);clear HB;have HB:=n0_;clear n0_;(try clear hb);(try clear hb2);(try clear hk);(try clear hi))|((with_reducible refine gate_callee (f:=42) rfl ?_);refine goesL_ (some 6) rfl rfl Try.func42 (by kernel_rfl) rfl #[.slice A0 l0.length c0] rfl (by (try simp only [List.map_toArray,List.map_cons,List.map_nil]);first|done|rfl|(simp only [List.length_drop,List.length_take];rfl)) ?_;(with_reducible refine (extent_Normal.calls _ _ l0 t496 _ ?side1 ?side2 A3.out).mono ?_);(case side1=>repeat (first|exact (Kd.C_below HR0.out HB.out)|(with_reducible refine Kd.C_alloc ?_ _)|(with_reducible refine Kd.C_drewN ?_ _)|(with_reducible refine Kd.C_drew ?_)));(case side2=>exact HC0.out);rintro e w6 ⟨v497,rfl,ho0,hb⟩;refine ⟨_,rfl,?_⟩;have n0_:=Z0.mk (Kd.R_lower ho0 (below_size (by repeat (first|(with_reducible first|exact HB.out|apply zbA|apply zbN|apply zb1)|exact HB.out))));have n1_:=Z0.mk (below_step (by repeat (first|(with_reducible first|exact HB.out|apply zbA|apply zbN|apply zb1)|exact HB.out)) hb);clear HB;have HO498:=n0_;have HB:=n1_;clear n0_ n1_;(try clear hb);(try clear hb2);(try clear hk);(try clear hi);(try clear ho0);obtain ⟨Ao7,co7,eo7⟩:=Kd.R_slice HO498.out;subst eo7)|((with_reducible refine gate_callee (f:=54) rfl ?_);refine goesL_ (some 7) rfl rfl Try.func54 (by kernel_rfl) rfl #[.slice Ao7 t496.length co7] rfl (by (try simp only [List.map_toArray,List.map_cons,List.map_nil]);first|done|rfl|(simp only [List.length_drop,List.length_take];rfl)) ?_;(with_reducible refine (extent_Size.calls k _ _ t496 t499 _ ?side1 ?side2 A4.out).mono ?_);(case side1=>repeat (first|exact (Kd.R_reads' HO498.out).2.2|(with_reducible refine Kd.C_alloc ?_ _)|(with_reducible refine Kd.C_drewN ?_ _)|(with_reducible refine Kd.C_drew ?_)));(case side2=>exact (Kd.R_reads' HO498.out).2.1);rintro e w8 ⟨rfl,hb⟩;refine ⟨_,rfl,?_⟩;have n0_:=Z0.mk (Kd.R_below (by (with_reducible repeat (first|apply Kd.R_alloc|apply Kd.R_drewN|apply Kd.R_drew));exact HO498.out) hb);have n1_:=Z0.mk (below_step (by repeat (first|(with_reducible first|exact HB.out|apply zbA|apply zbN|apply zb1)|exact HB.out)) hb);clear HO498;clear HB;have HO498:=n0_;have HB:=n1_;clear n0_ n1_;(try clear hb);(try clear hb2);(try clear hk);(try clear hi)))
 go_ret
 exact ⟨by first|rfl|(simp [errW_none,errW_some] <;> rfl)|(simp [*,errW_none,errW_some] <;> rfl),by repeat (first|(with_reducible first|exact HB.out|apply zbA|apply zbN|apply zb1)|exact HB.out)⟩
end Go.Proofs.Ytegefemkmdlmaaa.P
end
section
namespace Go.Proofs.Ytegefemkmdlmaaa.P
open Go.RowKit Go.Proofs.YtegefemkmdlmaaaW.PrintWords Go.Proofs.YtegefemkmdlmaaaW.PrintLast Go.Proofs.YtegefemkmdlmaaaW.PrintMore
theorem wrap_succ (i:Nat) (h : i≤1099511627776) : wrap64 ((i:Int) + 1)=((i + 1:Nat):Int):=by unfold wrap64;omega
theorem wrap_in (x:Int) (h0 : -9223372036854775808≤x) (h1 : x≤9223372036854775807) : wrap64 x=x:=by unfold wrap64;omega
theorem rd_at (l:List S103) (i:Nat) (h : i < l.length) : rd_T103 l (i:Int)=l[i]:=by
 unfold rd_T103
 rw [Int.toNat_natCast,List.getD_eq_getElem?_getD,List.getElem?_eq_getElem h]
 rfl
theorem drop_at (l:List S103) (i:Nat) (h : i < l.length) : l.drop i=rd_T103 l (i:Int)::l.drop (i + 1):=by
 rw [rd_at l i h,List.drop_eq_getElem_cons h]
theorem ok_at {l:List S103} (hok : okL l=true) {i:Nat} (h : i < l.length) : okR (rd_T103 l (i:Int))=true:=by
 rw [rd_at l i h]
 exact okL_all hok _ (List.getElem_mem h)
theorem clip_ev (r:S103) (h : okR r=true):Ev (fun k=>extent_clip.f k r.f0 r.f1) ((clipS r).f0,(clipS r).f1) :=
 Ev.of (extent_clip.mono _ _) (clip_eq 0 r h)
theorem sizeL_cons (r:S103) (l:List S103) : sizeL (r::l)=(clipS r).f1 + sizeL l:=by simp [sizeL]
theorem sizeL_bound (l:List S103) : 0≤sizeL l∧sizeL l≤128 * l.length:=by
 induction l with
 | nil=>simp [sizeL]
 | cons r l ih =>
  have:=clip_range r
  rw [sizeL_cons,List.length_cons]
  omega
theorem size_l0 (l:List S103) (hok : okL l=true):∀ (d i:Nat) (n:Int),i + d=l.length→0≤n→n≤128 * i→Ev (fun k=>extent_Size.l0 k n l (l.length:Int) (i:Int)) (n + sizeL (l.drop i)):=by
 have hlen:=okL_len hok
 intro d
 induction d with
 | zero =>
  intro i n hi h0 h1
  refine Ev.step (f:=fun _=>some n) (fun k=>by simp only [extent_Size.l0];rw [if_neg (by omega)]) ?_
  rw [List.drop_of_length_le (by omega),show sizeL []=0 from rfl,Int.add_zero]
  exact Ev.now _
 | succ d ih =>
  intro i n hi h0 h1
  have hlt : i < l.length:=by omega
  have hcr:=clip_range (rd_T103 l (i:Int))
  refine Ev.step (f:=fun k=>(extent_clip.f k ((rd_T103 l (i:Int)).f0) ((rd_T103 l (i:Int)).f1)).bind fun b=>extent_Size.l0 k (wrap64 (n + b.2)) l (l.length:Int) (wrap64 ((i:Int) + 1))) (fun k=>by simp only [extent_Size.l0];rw [if_pos (by omega),if_pos (by omega),if_pos (by omega)]) ?_
  refine Ev.bind (clip_ev _ (ok_at hok hlt)) ?_
  simp only []
  rw [wrap_succ i (by omega),wrap_in _ (by omega) (by omega),drop_at l i hlt,sizeL_cons,← Int.add_assoc]
  exact ih (i + 1) _ (by omega) (by omega) (by omega)
theorem size_ev (l:List S103) (hok : okL l=true):Ev (fun k=>extent_Size.f k l) (sizeL l):=by
 have:=size_l0 l hok l.length 0 0 (by omega) (by omega) (by omega)
 simpa [extent_Size.f] using this
theorem disj_ev (l:List S103) (hok : okL l=true):Ev (fun k=>extent_Disjoint.f k l) (disjL l):=by
 unfold extent_Disjoint.f
 refine Ev.bind (size_ev l hok) ?_
 unfold extent_Normal.f
 rw [if_pos hok]
 simp only [Option.bind_some]
 refine Ev.bind (size_ev _ (okL_runsOf _)) ?_
 exact Ev.now _
theorem eq_step (a b:S103):((!(a.f0 == b.f0) || (!(a.f1 == b.f1)))=true)↔a ≠ b:=by
 constructor
 ·rintro h rfl;simp at h
 intro h
 by_cases h0 : a.f0=b.f0
 ·have h1 : a.f1 ≠ b.f1:=fun h1=>h (S103_ext h0 h1)
  simp [h0,h1]
 simp [h0]
theorem equal_l0 (l m:List S103) (hlm : l.length=m.length) (hlen : l.length≤1099511627776):∀ (d i:Nat),i + d=l.length→Ev (fun k=>api_Run.l0 k l m (l.length:Int) (i:Int)) (decide (l.drop i=m.drop i)):=by
 intro d
 induction d with
 | zero =>
  intro i hi
  refine Ev.step (f:=fun _=>some true) (fun k=>by simp only [api_Run.l0];rw [if_neg (by omega)]) ?_
  rw [List.drop_of_length_le (by omega),List.drop_of_length_le (by omega)]
  exact Ev.now _
 | succ d ih =>
  intro i hi
  have hlt : i < l.length:=by omega
  rw [drop_at l i hlt,drop_at m i (by omega)]
  by_cases e : rd_T103 l (i:Int)=rd_T103 m (i:Int)
  ·refine Ev.step (f:=fun k=>api_Run.l0 k l m (l.length:Int) (wrap64 ((i:Int) + 1))) (fun k=>by simp only [api_Run.l0];rw [if_pos (by omega),if_pos (by omega),if_pos (by omega),if_pos (by omega),if_neg (fun h=>(eq_step _ _).1 h e)]) ?_
   rw [wrap_succ i (by omega),show decide (rd_T103 l (i:Int)::l.drop (i + 1)=rd_T103 m (i:Int)::m.drop (i + 1))=decide (l.drop (i + 1)=m.drop (i + 1)) from by rw [decide_eq_decide,e];simp]
   exact ih (i + 1) (by omega)
  refine Ev.step (f:=fun _=>some false) (fun k=>by simp only [api_Run.l0];rw [if_pos (by omega),if_pos (by omega),if_pos (by omega),if_pos (by omega),if_pos ((eq_step _ _).2 e)]) ?_
  rw [show decide (rd_T103 l (i:Int)::l.drop (i + 1)=rd_T103 m (i:Int)::m.drop (i + 1))=false from decide_eq_false (fun h=>e (List.cons.inj h).1)]
  exact Ev.now _
theorem equal_ev (l m:List S103) (hlen : l.length≤1099511627776):Ev (fun k=>api_Run.f k l m) (decide (l=m)):=by
 unfold api_Run.f
 by_cases h : l.length=m.length
 ·simp only [if_pos (show (l.length:Int)=m.length by omega)]
  have:=equal_l0 l m h hlen l.length 0 (by omega)
  simpa using this
 simp only [if_neg (show ¬ (l.length:Int)=m.length by omega)]
 rw [show decide (l=m)=false from decide_eq_false (fun e=>h (by rw [e]))]
 exact Ev.now _
theorem same_l0 (l m:List S103) (hlm : l.length=m.length) (hlen : l.length≤1099511627776):∀ (d i:Nat),i + d=l.length→Ev (fun k=>q5Same.l0 k l m (i:Int)) (decide (l.drop i=m.drop i)):=by
 intro d
 induction d with
 | zero =>
  intro i hi
  refine Ev.step (f:=fun _=>some true) (fun k=>by simp only [q5Same.l0];rw [if_neg (by omega)]) ?_
  rw [List.drop_of_length_le (by omega),List.drop_of_length_le (by omega)]
  exact Ev.now _
 | succ d ih =>
  intro i hi
  have hlt : i < l.length:=by omega
  rw [drop_at l i hlt,drop_at m i (by omega)]
  by_cases e : rd_T103 l (i:Int)=rd_T103 m (i:Int)
  ·refine Ev.step (f:=fun k=>q5Same.l0 k l m (wrap64 ((i:Int) + 1))) (fun k=>by simp only [q5Same.l0];rw [if_pos (by omega),if_pos (by omega),if_pos (by omega),if_neg (fun h=>(eq_step _ _).1 h e)]) ?_
   rw [wrap_succ i (by omega),show decide (rd_T103 l (i:Int)::l.drop (i + 1)=rd_T103 m (i:Int)::m.drop (i + 1))=decide (l.drop (i + 1)=m.drop (i + 1)) from by rw [decide_eq_decide,e];simp]
   exact ih (i + 1) (by omega)
  refine Ev.step (f:=fun _=>some false) (fun k=>by simp only [q5Same.l0];rw [if_pos (by omega),if_pos (by omega),if_pos (by omega),if_pos ((eq_step _ _).2 e)]) ?_
  rw [show decide (rd_T103 l (i:Int)::l.drop (i + 1)=rd_T103 m (i:Int)::m.drop (i + 1))=false from decide_eq_false (fun h=>e (List.cons.inj h).1)]
  exact Ev.now _
theorem same_ev (l m:List S103) (hlen : l.length≤1099511627776):Ev (fun k=>q5Same.f k l m) (decide (l=m)):=by
 unfold q5Same.f
 by_cases h : l.length=m.length
 ·simp only [if_pos (show (l.length:Int)=m.length by omega)]
  have:=same_l0 l m h hlen l.length 0 (by omega)
  simpa using this
 simp only [if_neg (show ¬ (l.length:Int)=m.length by omega)]
 rw [show decide (l=m)=false from decide_eq_false (fun e=>h (by rw [e]))]
 exact Ev.now _
end Go.Proofs.Ytegefemkmdlmaaa.P
end
section
namespace Go.Proofs.Ytegefemkmdlmaaa.P
open Go.RowKit Go.Proofs.YtegefemkmdlmaaaW.PrintWords Go.Proofs.YtegefemkmdlmaaaW.PrintLast Go.Proofs.YtegefemkmdlmaaaW.PrintMore
def fine (l:List S103):Prop:=∀ r ∈ l,0≤r.f0∧1≤r.f1∧r.f0 + r.f1≤128
theorem fine_nil : fine []:=fun _ h=>by cases h
theorem fine_snoc {l:List S103} {r:S103} (h : fine l) (h0 : 0≤r.f0) (h1 : 1≤r.f1) (h2 : r.f0 + r.f1≤128) : fine (l++[r]):=by
 intro q hq
 rcases List.mem_append.1 hq with hq|hq
 ·exact h q hq
 rw [List.mem_singleton.1 hq];exact ⟨h0,h1,h2⟩
theorem joinTo_skip (out:List S103) (r:S103) (l:List S103) (h:(clipS r).f1=0) : joinTo out (r::l)=joinTo out l:=by
 simp only [joinTo];rw [if_pos h]
theorem joinTo_first (r:S103) (l:List S103) (h:(clipS r).f1 ≠ 0) : joinTo [] (r::l)=joinTo [clipS r] l:=by
 simp only [joinTo];rw [if_neg h,if_neg (fun h=>h.1 rfl)];rfl
theorem joinTo_more (o:List S103) (q r:S103) (l:List S103) (h:(clipS r).f1 ≠ 0) (he : q.f0 + q.f1=(clipS r).f0) : joinTo (o++[q]) (r::l)=joinTo (o++[⟨q.f0,q.f1 + (clipS r).f1⟩]) l:=by
 simp only [joinTo]
 rw [if_neg h,if_pos (by simpa using he)]
 simp
theorem joinTo_new (o:List S103) (q r:S103) (l:List S103) (h:(clipS r).f1 ≠ 0) (he : q.f0 + q.f1 ≠ (clipS r).f0) : joinTo (o++[q]) (r::l)=joinTo (o++[q]++[clipS r]) l:=by
 simp only [joinTo]
 rw [if_neg h,if_neg (by simpa using he)]
theorem rd_last (o:List S103) (q:S103) : rd_T103 (o++[q]) (o.length:Int)=q:=by
 rw [rd_at _ _ (by simp)]
 simp
theorem set_last (o:List S103) (q p:S103):(o++[q]).set o.length p=o++[p]:=by simp
theorem join_l0 (l:List S103) (hok : okL l=true):∀ (d i:Nat) (out:List S103),i + d=l.length→fine out→out.length≤i→Ev (fun k=>extent_Join.l0 k out l (l.length:Int) (i:Int)) (joinTo out (l.drop i)):=by
 have hlen:=okL_len hok
 intro d
 induction d with
 | zero =>
  intro i out hi hf ho
  refine Ev.step (f:=fun _=>some out) (fun k=>by simp only [extent_Join.l0];rw [if_neg (by omega)]) ?_
  rw [List.drop_of_length_le (by omega)]
  exact Ev.now _
 | succ d ih =>
  intro i out hi hf ho
  have hlt : i < l.length:=by omega
  have hcr:=clip_range (rd_T103 l (i:Int))
  have hce:=clip_ev _ (ok_at hok hlt)
  rw [drop_at l i hlt]
  refine Ev.step (f:=fun k=>(extent_clip.f k ((rd_T103 l (i:Int)).f0) ((rd_T103 l (i:Int)).f1)).bind _) (fun k=>by simp only [extent_Join.l0];rw [if_pos (by omega),if_pos (by omega),if_pos (by omega)]) ?_
  refine Ev.bind hce ?_
  simp only []
  obtain ⟨c,hc⟩:∃ c,c=clipS (rd_T103 l (i:Int)):=⟨_,rfl⟩
  rw [← hc] at hcr ⊢
  rw [wrap_succ i (by omega)]
  by_cases h0 : c.f1=0
  ·simp only [if_pos h0]
   rw [joinTo_skip _ _ _ (by rw [← hc];exact h0)]
   exact ih (i + 1) out (by omega) hf (by omega)
  simp only [if_neg h0]
  have hc1:(clipS (rd_T103 l (i:Int))).f1 ≠ 0:=by rw [← hc];exact h0
  rcases List.eq_nil_or_concat out with rfl|⟨o,q,rfl⟩
  ·have hw : wrap64 ((([]:List S103).length:Int) - 1)=-1:=by unfold wrap64;simp
   simp only [hw,if_neg (show ¬ ((-1:Int) ≥ 0) by omega)]
   rw [joinTo_first _ _ hc1,← hc]
   simp only [if_pos (show ([]:List S103).length < 8796093022208 by simp)]
   exact ih (i + 1) [c] (by omega) (fine_snoc fine_nil hcr.1 (by omega) hcr.2.2.2) (by simp)
  have hq:=hf q (by simp)
  have hl:((o.concat q).length:Int) - 1=(o.length:Int):=by simp
  have hll:(o.concat q).length=o.length + 1:=by simp
  have hw : wrap64 (((o.concat q).length:Int) - 1)=(o.length:Int):=by rw [hl,wrap_in _ (by omega) (by omega)]
  simp only [hw]
  rw [List.concat_eq_append] at *
  simp only [rd_last,if_pos (show ((o.length:Nat):Int) ≥ 0 by omega),if_pos (show ((o.length:Nat):Int) < ((o++[q]).length:Int) by omega),Int.toNat_natCast,set_last]
  rw [wrap_in (q.f0 + q.f1) (by omega) (by omega)]
  by_cases he : q.f0 + q.f1=c.f0
  ·simp only [if_pos he]
   rw [wrap_in (q.f1 + c.f1) (by omega) (by omega),joinTo_more _ _ _ _ hc1 (by rw [← hc];exact he),← hc]
   exact ih (i + 1) _ (by omega) (fine_snoc (fun x hx=>hf x (List.mem_append_left _ hx)) hq.1 (by simp only [];omega) (by simp only [];omega)) (by simp at ho ⊢;omega)
  simp only [if_neg he]
  rw [joinTo_new _ _ _ _ hc1 (by rw [← hc];exact he),← hc]
  simp only [if_pos (show (o++[q]).length < 8796093022208 by omega)]
  exact ih (i + 1) _ (by omega) (fine_snoc (r:=c) hf hcr.1 (by omega) hcr.2.2.2) (by simp at ho ⊢;omega)
theorem join_ev (l:List S103) (hok : okL l=true):Ev (fun k=>extent_Join.f k l) (joinL l):=by
 have:=join_l0 l hok l.length 0 [] (by omega) fine_nil (by simp)
 simpa [extent_Join.f,joinL] using this
theorem fine_joinTo (l:List S103):∀ out,fine out→fine (joinTo out l)∧(joinTo out l).length≤out.length + l.length:=by
 induction l with
 | nil=>intro out h;exact ⟨h,by simp [joinTo]⟩
 | cons r l ih =>
  intro out h
  have hcr:=clip_range r
  by_cases h0:(clipS r).f1=0
  ·rw [joinTo_skip _ _ _ h0]
   have:=ih out h
   exact ⟨this.1,by rw [List.length_cons];omega⟩
  rcases List.eq_nil_or_concat out with rfl|⟨o,q,rfl⟩
  ·rw [joinTo_first _ _ h0]
   have:=ih [clipS r] (fine_snoc fine_nil hcr.1 (by omega) hcr.2.2.2)
   exact ⟨this.1,by rw [List.length_cons];simp at this ⊢;omega⟩
  rw [List.concat_eq_append] at *
  have hq:=h q (by simp)
  by_cases he : q.f0 + q.f1=(clipS r).f0
  ·rw [joinTo_more _ _ _ _ h0 he]
   have:=ih _ (fine_snoc (r:=⟨q.f0,q.f1 + (clipS r).f1⟩) (fun x hx=>h x (List.mem_append_left _ hx)) hq.1 (by simp only [];omega) (by simp only [];omega))
   exact ⟨this.1,by rw [List.length_cons];simp at this ⊢;omega⟩
  rw [joinTo_new _ _ _ _ h0 he]
  have:=ih _ (fine_snoc h hcr.1 (by omega) hcr.2.2.2)
  exact ⟨this.1,by rw [List.length_cons];simp at this ⊢;omega⟩
theorem fine_joinL (l:List S103) : fine (joinL l):=(fine_joinTo l [] fine_nil).1
theorem joinL_length (l:List S103):(joinL l).length≤l.length:=by have:=(fine_joinTo l [] fine_nil).2;simpa [joinL] using this
end Go.Proofs.Ytegefemkmdlmaaa.P
end
