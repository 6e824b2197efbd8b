import Derived.Test.YtegefemkmdlmaaaF0
import Derived.Test.YtegefemkmdlmaaaQa
import Derived.Test.YtegefemkmdlmaaaF86
import Derived.Test.YtegefemkmdlmaaaF87
import Derived.Test.YtegefemkmdlmaaaF102
import Derived.Test.YtegefemkmdlmaaaF103
namespace Go.Proofs.Ytegefemkmdlmaaa.P
open Go.RowKit Go.Proofs.YtegefemkmdlmaaaW.PrintWords Go.Proofs.YtegefemkmdlmaaaW.PrintLast Go.Proofs.YtegefemkmdlmaaaW.PrintMore
attribute [local go_sem] max2_int min2_int max_two min_two max_three min_three max_four min_four
set_option linter.unusedVariables false
set_option linter.unusedSimpArgs false
mutual
def q7Encode.j0:Nat→Int→Bool→Int→Int→ByteArray→ByteArray→List (S103)→Option (ByteArray)
 | 0,_,_,_,_,_,_,_=>none
 | k + 1,x1,x13,x943000,x943001,x943002,x943003,x943004=>if x13=true then ((q1Padded.f k (⟨#[]⟩:ByteArray) 1024).bind fun t945=>(some t945)) else ((q7Valid.f k x943000 x943001 x943002 x943003 x943004 x1).bind fun t946=>(if t946=true then ((q1Number.f k (IntKind.u64.wrap (x943000))).bind fun t947=>((q1Number.f k (IntKind.u64.wrap (x943001))).bind fun t948=>(if t947.size + t948.size≤9223372036854775807 then ((q1Text.f k x943002).bind fun t949=>(if (t947++t948).size + t949.size≤9223372036854775807 then ((q1Text.f k x943003).bind fun t950=>(if ((t947++t948)++t949).size + t950.size≤9223372036854775807 then ((q1Number.f k (IntKind.u64.wrap ((x943004.length:Int)))).bind fun t951=>(if (((t947++t948)++t949)++t950).size + t951.size≤9223372036854775807 then (q7Encode.l0 k ((((t947++t948)++t949)++t950)++t951) 0 x943000 x943001 x943002 x943003 x943004) else (none))) else (none))) else (none))) else (none)))) else (some (⟨#[]⟩:ByteArray))))
def q7Encode.l0:Nat→ByteArray→Int→Int→Int→ByteArray→ByteArray→List (S103)→Option (ByteArray)
 | 0,_,_,_,_,_,_,_=>none
 | k + 1,x5,x6,x943000,x943001,x943002,x943003,x943004=>if x6 < (x943004.length:Int) then (if 0≤x6 then ((q1Number.f k (IntKind.u64.wrap ((rd_T103 x943004 x6).f0))).bind fun t953=>(if x5.size + t953.size≤9223372036854775807 then ((q1Number.f k (IntKind.u64.wrap ((rd_T103 x943004 x6).f1))).bind fun t955=>(if (x5++t953).size + t955.size≤9223372036854775807 then (q7Encode.l0 k ((x5++t953)++t955) (wrap64 (x6 + 1)) x943000 x943001 x943002 x943003 x943004) else (none))) else (none))) else (none)) else ((q1Padded.f k x5 1024).bind fun t956=>(some t956))
end
def q7Encode.f (k:Nat) (a0_0:Int) (a0_1:Int) (a0_2:ByteArray) (a0_3:ByteArray) (l0_4:List (S103)) (a1:Int):Option (ByteArray):=(q7valid.f a1).bind fun t943=>(if t943=true then ((q7Equal.f k a0_0 a0_1 a0_2 a0_3 l0_4 0 0 (⟨#[]⟩:ByteArray) (⟨#[]⟩:ByteArray) ([]:List (S103))).bind fun t944=>(q7Encode.j0 k a1 t944 a0_0 a0_1 a0_2 a0_3 l0_4)) else (q7Encode.j0 k a1 false a0_0 a0_1 a0_2 a0_3 l0_4))
theorem q7Encode.mono_l:∀ k,(∀ y0 y1 y2 y3 y4 y5 y6,LeO (q7Encode.j0 k y0 y1 y2 y3 y4 y5 y6) (q7Encode.j0 (k + 1) y0 y1 y2 y3 y4 y5 y6))∧(∀ y0 y1 y2 y3 y4 y5 y6,LeO (q7Encode.l0 k y0 y1 y2 y3 y4 y5 y6) (q7Encode.l0 (k + 1) y0 y1 y2 y3 y4 y5 y6))
 | 0=>⟨fun _ _ _ _ _ _ _ r h=>by simp [q7Encode.j0] at h,fun _ _ _ _ _ _ _ r h=>by simp [q7Encode.l0] at h⟩
 | k + 1=>by
  obtain ⟨ih0,ih1⟩:=q7Encode.mono_l k
  refine ⟨?_,?_⟩
  ·intro y0 y1 y2 y3 y4 y5 y6
   unfold q7Encode.j0
   repeat' first
   | (with_reducible exact ih0 _ _ _ _ _ _ _)
   | (with_reducible exact ih1 _ _ _ _ _ _ _)
   | (with_reducible exact q1Number.mono _ _)
   | (with_reducible exact q1Padded.mono _ _ _)
   | (with_reducible exact q1Text.mono _ _)
   | (with_reducible exact q7Equal.mono _ _ _ _ _ _ _ _ _ _ _)
   | (with_reducible exact q7Valid.mono _ _ _ _ _ _ _)
   | (with_reducible exact LeO.refl _)
   | (with_reducible exact LeO.none _)
   | (with_reducible refine LeO.ite ?_ ?_)
   | (with_reducible refine LeO.bind ?_ (fun _=>?_))
   | exact ih0 _ _ _ _ _ _ _
   | exact ih1 _ _ _ _ _ _ _
   | exact q1Number.mono _ _
   | exact q1Padded.mono _ _ _
   | exact q1Text.mono _ _
   | exact q7Equal.mono _ _ _ _ _ _ _ _ _ _ _
   | exact q7Valid.mono _ _ _ _ _ _ _
   | exact LeO.none _
   | refine LeO.ite ?_ ?_
   | refine LeO.bind ?_ (fun _=>?_)
  intro y0 y1 y2 y3 y4 y5 y6
  unfold q7Encode.l0
  repeat' first
  | (with_reducible exact ih0 _ _ _ _ _ _ _)
  | (with_reducible exact ih1 _ _ _ _ _ _ _)
  | (with_reducible exact q1Number.mono _ _)
  | (with_reducible exact q1Padded.mono _ _ _)
  | (with_reducible exact q1Text.mono _ _)
  | (with_reducible exact q7Equal.mono _ _ _ _ _ _ _ _ _ _ _)
  | (with_reducible exact q7Valid.mono _ _ _ _ _ _ _)
  | (with_reducible exact LeO.refl _)
  | (with_reducible exact LeO.none _)
  | (with_reducible refine LeO.ite ?_ ?_)
  | (with_reducible refine LeO.bind ?_ (fun _=>?_))
  | exact ih0 _ _ _ _ _ _ _
  | exact ih1 _ _ _ _ _ _ _
  | exact q1Number.mono _ _
  | exact q1Padded.mono _ _ _
  | exact q1Text.mono _ _
  | exact q7Equal.mono _ _ _ _ _ _ _ _ _ _ _
  | exact q7Valid.mono _ _ _ _ _ _ _
  | exact LeO.none _
  | refine LeO.ite ?_ ?_
  | refine LeO.bind ?_ (fun _=>?_)
theorem q7Encode.mono:∀ a0 a1 a2 a3 a4 a5 k,LeO (q7Encode.f k a0 a1 a2 a3 a4 a5) (q7Encode.f (k + 1) a0 a1 a2 a3 a4 a5):=by
 intro a0 a1 a2 a3 a4 a5 k
 obtain ⟨ih0,ih1⟩:=q7Encode.mono_l k
 unfold q7Encode.f
 repeat' first
   | (with_reducible exact ih0 _ _ _ _ _ _ _)
   | (with_reducible exact ih1 _ _ _ _ _ _ _)
   | (with_reducible exact q1Number.mono _ _)
   | (with_reducible exact q1Padded.mono _ _ _)
   | (with_reducible exact q1Text.mono _ _)
   | (with_reducible exact q7Equal.mono _ _ _ _ _ _ _ _ _ _ _)
   | (with_reducible exact q7Valid.mono _ _ _ _ _ _ _)
   | (with_reducible exact LeO.refl _)
   | (with_reducible exact LeO.none _)
   | (with_reducible refine LeO.ite ?_ ?_)
   | (with_reducible refine LeO.bind ?_ (fun _=>?_))
   | exact ih0 _ _ _ _ _ _ _
   | exact ih1 _ _ _ _ _ _ _
   | exact q1Number.mono _ _
   | exact q1Padded.mono _ _ _
   | exact q1Text.mono _ _
   | exact q7Equal.mono _ _ _ _ _ _ _ _ _ _ _
   | exact q7Valid.mono _ _ _ _ _ _ _
   | exact LeO.none _
   | refine LeO.ite ?_ ?_
   | refine LeO.bind ?_ (fun _=>?_)
def q7Encode.T5:Bool×List (List Nat×List Nat):=(true,[([],[]),([0],[0]),([1],[1]),([2],[2]),([],[]),([4],[4]),([5],[5]),([6,3],[6]),([3,7],[3,7]),([],[]),([9],[9]),([10,7],[10]),([8,11],[8,11]),([],[]),([13],[13]),([14,11],[14]),([12,15],[12,15]),([],[]),([17],[17]),([18],[18]),([19],[19]),([20,15],[20]),([16,21],[16,21]),([22,21,0,1,2,3,4,5,6,7,8,9,10,11,12,13,14,15,16,17,18,19,20,21,22],[22])])
def q7Encode.B5:List Nat:=[0,1,3,7,0,16,48,127,255,0,512,1791,4095,0,8192,28415,65535,0,131072,393216,917504,2027263,4194303,8388607]
theorem q7Encode.tab5 : rtab .any (opsOf Try.f88 5)=q7Encode.T5:=by kernel_rfl
theorem q7Encode.bits5 : waitsOk q7Encode.T5.2 q7Encode.B5=true:=by kernel_rfl
def q7Encode.T9:Bool×List (List Nat×List Nat):=(true,[([],[]),([],[]),([1],[1]),([],[]),([2,3],[2,3]),([4],[4]),([5],[5]),([6],[6]),([7],[7]),([0,8],[0,8]),([],[]),([10],[10]),([],[]),([11,12],[11,12]),([13],[13]),([14],[14]),([15],[15]),([16,8],[16]),([9,17],[9,17]),([18,17,0,1,2,3,4,5,6,7,8,9,10,11,12,13,14,15,16,17,18],[0,18])])
def q7Encode.B9:List Nat:=[0,0,2,0,14,30,62,126,254,511,0,1024,0,7168,15360,31744,64512,130558,262143,524287]
theorem q7Encode.tab9 : rtab .any (opsOf Try.f88 9)=q7Encode.T9:=by kernel_rfl
theorem q7Encode.bits9 : waitsOk q7Encode.T9.2 q7Encode.B9=true:=by kernel_rfl
set_option maxHeartbeats 8000000 in
set_option maxRecDepth 100000 in
theorem q7Encode.calls (k:Nat) (a0_0:Int) (a0_1:Int) (a0_2:ByteArray) (a0_3:ByteArray) (A0_4:Option Addr) (c0_4:Nat) (l0_4:List (S103)) (a1:Int) (r:ByteArray) (w:World) (hr0_4:Kd.C k103 w A0_4 l0_4.length l0_4) (hc0_4 : l0_4.length≤c0_4) (h : q7Encode.f k a0_0 a0_1 a0_2 a0_3 l0_4 a1=some r) :
  Calls Try.prog 88 #[.agg #[.int .i64 a0_0,.int .i64 a0_1,.string a0_2,.string a0_3,.slice A0_4 l0_4.length c0_4],.int .i64 a1] w fun e w'=>e=.returned (.string r)∧Below w.heap.size w w':=by
 have hu55:=Try.underlying55
 have HR0_4:=Z0.mk hr0_4
 have HC0_4:=Z0.mk hc0_4
 clear hr0_4 hc0_4
 have HB:=Z0.mk (Below.refl w.heap.size w)
 have H:((q7valid.f a1).bind fun t943=>(if t943=true then ((q7Equal.f k a0_0 a0_1 a0_2 a0_3 l0_4 0 0 (⟨#[]⟩:ByteArray) (⟨#[]⟩:ByteArray) ([]:List (S103))).bind fun t944=>(q7Encode.j0 k a1 t944 a0_0 a0_1 a0_2 a0_3 l0_4)) else (q7Encode.j0 k a1 false a0_0 a0_1 a0_2 a0_3 l0_4)))=some r:=h
 clear h
 have HC3:=Z0.mk H
 clear H
 go_enter Try.func88,Try.ntmps88
 go_upto_region 1 with (first|((with_reducible refine gate_dst (N:=2) rfl ?_);refine box_event ?hg (N:=2) ?hd (cs:=#[.int .i64 a0_0,.int .i64 a0_1,.string a0_2,.string a0_3,.slice A0_4 l0_4.length c0_4]) (t:=55) ?hr ?_;(case hd=>rfl);(case hg=>rfl);(case hr=>first|(go_simp;done)|(go_simp;rfl));intro gb942 hg w4 hbox hb;have n0_:=Z0.mk (below_step (by repeat (first|(with_reducible first|exact HB.out|apply zbA|apply zbN|apply zb1)|exact HB.out)) hb);have n1_:=Z0.mk (hbox);have n2_:=Z0.mk ((by rw [hg];exact (below_size (by repeat (first|(with_reducible first|exact HB.out|apply zbA|apply zbN|apply zb1)|exact HB.out))) : w.heap.size≤gb942));have n3_:=Z0.mk ((by rw [hg];exact (below_size (by repeat (first|(with_reducible first|exact HB.out|apply zbA|apply zbN|apply zb1)|exact HB.out))) : w.heap.size≤gb942));clear HB;have HB:=n0_;have BK942:=n1_;have GW942:=n2_;have GE942:=n3_;clear n0_ n1_ n2_ n3_;clear hb hbox hg))
 (try simp only [Act.put,List.setIfInBounds_toArray,List.set_cons_zero,List.set_cons_succ])
 go_cut [13] (fun v13 wc=>∃ (kq:Nat) (x13_2:Bool),v13=.bool x13_2∧Z0 (q7Encode.j0 kq a1 x13_2 a0_0 a0_1 a0_2 a0_3 l0_4=some r)∧Z0 (kq≤k)∧Z0 (wc.heap[gb942]?=some (.cells #[.int .i64 a0_0,.int .i64 a0_1,.string a0_2,.string a0_3,(.slice A0_4 l0_4.length c0_4)] 55 (0,0)))∧Z0 (Below w.heap.size w wc))
 case first =>
  have H:=HC3.out
  clear HC3
  replace H:=Option.bind_eq_some_iff.mp H
  obtain ⟨t943,A50,H⟩:=H
  replace H:(if t943=true then ((q7Equal.f k a0_0 a0_1 a0_2 a0_3 l0_4 0 0 (⟨#[]⟩:ByteArray) (⟨#[]⟩:ByteArray) ([]:List (S103))).bind fun t944=>(q7Encode.j0 k a1 t944 a0_0 a0_1 a0_2 a0_3 l0_4)) else (q7Encode.j0 k a1 false a0_0 a0_1 a0_2 a0_3 l0_4))=some r:=H
  have A5:=Z0.mk A50
  clear A50
  by_cases c6 : t943=true
  ·subst c6
   have H1:((q7Equal.f k a0_0 a0_1 a0_2 a0_3 l0_4 0 0 (⟨#[]⟩:ByteArray) (⟨#[]⟩:ByteArray) ([]:List (S103))).bind fun t944=>(q7Encode.j0 k a1 t944 a0_0 a0_1 a0_2 a0_3 l0_4))=some r:=by rw [if_pos rfl] at H;exact H
   clear H
   have H:=H1
   clear H1
   replace H:=Option.bind_eq_some_iff.mp H
   obtain ⟨t944,A70,H⟩:=H
   replace H:(q7Encode.j0 k a1 t944 a0_0 a0_1 a0_2 a0_3 l0_4)=some r:=H
   have A7:=Z0.mk A70
   clear A70
   have H':=Z0.mk H
   clear H
   go_wp2_with (first|((with_reducible refine gate_callee (f:=102) rfl ?_);refine goesL_ (some 8) rfl rfl Try.func102 (by kernel_rfl) rfl #[.int .i64 a1] rfl (by (try simp only [List.map_toArray,List.map_cons,List.map_nil]);first|done|rfl|(simp only [List.length_drop,List.length_take];rfl)) ?_;(with_reducible refine (q7valid.calls a1 true _ A5.out).mono ?_);rintro e w' ⟨rfl,⟨nd,rfl⟩⟩;refine ⟨_,rfl,?_⟩;have hcz8_0 : w4.cell? ⟨gb942,0,none⟩=some (.int .i64 a0_0):=(zkC BK942.out 0).trans rfl;have hcz8_1 : w4.cell? ⟨gb942,1,none⟩=some (.int .i64 a0_1):=(zkC BK942.out 1).trans rfl;have hcz8_2 : w4.cell? ⟨gb942,2,none⟩=some (.string a0_2):=(zkC BK942.out 2).trans rfl;have hcz8_3 : w4.cell? ⟨gb942,3,none⟩=some (.string a0_3):=(zkC BK942.out 3).trans rfl;have hcz8_4 : w4.cell? ⟨gb942,4,none⟩=some (.slice A0_4 l0_4.length c0_4):=(zkC BK942.out 4).trans rfl;have hfz8_0:=zkF BK942.out 0;have hfz8_1:=zkF BK942.out 1;have hfz8_2:=zkF BK942.out 2;have hfz8_3:=zkF BK942.out 3;have hfz8_4:=zkF BK942.out 4)|(go_at_call 87;(refine (q7Equal.calls k a0_0 a0_1 a0_2 a0_3 _ _ l0_4 0 0 (⟨#[]⟩:ByteArray) (⟨#[]⟩:ByteArray) _ _ ([]:List (S103)) t944 _ ?side1 ?side2 ?side3 ?side4 A7.out).mono ?_);(case side1=>repeat (first|exact (Kd.C_below HR0_4.out (by repeat (first|(with_reducible first|exact HB.out|apply zbA|apply zbN|apply zb1|refine zbS ?_ GE942.out)|exact HB.out)))|(with_reducible refine Kd.C_alloc ?_ _)|(with_reducible refine Kd.C_drewN ?_ _)|(with_reducible refine Kd.C_drew ?_)));(case side2=>exact HC0_4.out);(case side3=>exact Kd.C_nil _ _);(case side4=>exact Nat.le_refl _);rintro e w9 ⟨rfl,hb⟩;have n0_:=Z0.mk (blk_below (g:=gb942) (o:=.cells #[.int .i64 a0_0,.int .i64 a0_1,.string a0_2,.string a0_3,.slice A0_4 l0_4.length c0_4] 55 (0,0)) (by (with_reducible repeat (first|refine zkN ?_ _|refine zkD ?_|refine zkA ?_ _));exact BK942.out) hb);have n1_:=Z0.mk (below_step (by repeat (first|(with_reducible first|exact HB.out|apply zbA|apply zbN|apply zb1|refine zbS ?_ GE942.out)|exact HB.out)) hb);clear BK942;clear HB;have BK942:=n0_;have HB:=n1_;clear n0_ n1_;(try clear hb);(try clear hb2);(try clear hk);(try clear hi)))
   go_meet
   case rel=>exact ⟨_,(t944),(by first|rfl|(simp;done)|(simp [*];done)),H',⟨by first|omega|exact Nat.le_refl _⟩,⟨by (with_reducible repeat (first|refine zkN ?_ _|refine zkD ?_|refine zkA ?_ _));exact BK942.out⟩,⟨by repeat (first|(with_reducible first|exact HB.out|apply zbA|apply zbN|apply zb1|refine zbS ?_ GE942.out)|exact HB.out)⟩⟩
  replace c6:=Bool.eq_false_iff.mpr c6
  subst c6
  have H1:(q7Encode.j0 k a1 false a0_0 a0_1 a0_2 a0_3 l0_4)=some r:=by rw [if_neg (show ¬ (false=true) by decide)] at H;exact H
  clear H
  have H:=H1
  clear H1
  have H':=Z0.mk H
  clear H
  go_wp2_with (first|((with_reducible refine gate_callee (f:=102) rfl ?_);refine goesL_ (some 8) rfl rfl Try.func102 (by kernel_rfl) rfl #[.int .i64 a1] rfl (by (try simp only [List.map_toArray,List.map_cons,List.map_nil]);first|done|rfl|(simp only [List.length_drop,List.length_take];rfl)) ?_;(with_reducible refine (q7valid.calls a1 false _ A5.out).mono ?_);rintro e w' ⟨rfl,⟨nd,rfl⟩⟩;refine ⟨_,rfl,?_⟩))
  go_meet
  case rel=>exact ⟨_,(false),(by first|rfl|(simp;done)|(simp [*];done)),H',⟨by first|omega|exact Nat.le_refl _⟩,⟨by (with_reducible repeat (first|refine zkN ?_ _|refine zkD ?_|refine zkA ?_ _));exact BK942.out⟩,⟨by repeat (first|(with_reducible first|exact HB.out|apply zbA|apply zbN|apply zb1|refine zbS ?_ GE942.out)|exact HB.out)⟩⟩
 case rest =>
  clear HC3
  try clear c1
  try clear p2
  try clear c6
  try clear c8
  try clear hcz8_0
  try clear hcz8_1
  try clear hcz8_2
  try clear hcz8_3
  try clear hcz8_4
  try clear hfz8_0
  try clear hfz8_1
  try clear hfz8_2
  try clear hfz8_3
  try clear hfz8_4
  obtain ⟨kq,x13_2,rfl,HA,HJ2,BK942,HB⟩:=hcut
  cases kq with
  | zero=>exact absurd HA.out (by simp [q7Encode.j0])
  | succ kj2 =>
   have H:=HA.out
   clear HA
   simp only [q7Encode.j0] at H
   by_cases c10 : x13_2=true
   ·subst c10
    have H1:((q1Padded.f kj2 (⟨#[]⟩:ByteArray) 1024).bind fun t945=>(some t945))=some r:=by rw [if_pos rfl] at H;exact H
    clear H
    have H:=H1
    clear H1
    replace H:=Option.bind_eq_some_iff.mp H
    obtain ⟨t945,A110,H⟩:=H
    replace H:(some t945)=some r:=H
    have A11:=Z0.mk A110
    clear A110
    obtain rfl:=Option.some.inj H
    go_wp2_with (first|((with_reducible refine gate_callee (f:=103) rfl ?_);refine goesL_ (some 14) rfl rfl Try.func103 (by kernel_rfl) rfl #[.string (⟨#[]⟩:ByteArray),.int .i64 1024] rfl (by (try simp only [List.map_toArray,List.map_cons,List.map_nil]);first|done|rfl|(simp only [List.length_drop,List.length_take];rfl)) ?_;(with_reducible refine (q1Padded.calls kj2 (⟨#[]⟩:ByteArray) 1024 t945 _ A11.out).mono ?_);rintro e w' ⟨rfl,⟨nd,rfl⟩⟩;refine ⟨_,rfl,?_⟩))
    go_ret
    exact ⟨by first|rfl|(simp [errW_none,errW_some] <;> rfl)|(simp [*,errW_none,errW_some] <;> rfl),by repeat (first|(with_reducible first|exact HB.out|apply zbA|apply zbN|apply zb1|refine zbS ?_ GE942.out)|exact HB.out)⟩
   replace c10:=Bool.eq_false_iff.mpr c10
   subst c10
   have H1:((q7Valid.f kj2 a0_0 a0_1 a0_2 a0_3 l0_4 a1).bind fun t946=>(if t946=true then ((q1Number.f kj2 (IntKind.u64.wrap (a0_0))).bind fun t947=>((q1Number.f kj2 (IntKind.u64.wrap (a0_1))).bind fun t948=>(if t947.size + t948.size≤9223372036854775807 then ((q1Text.f kj2 a0_2).bind fun t949=>(if (t947++t948).size + t949.size≤9223372036854775807 then ((q1Text.f kj2 a0_3).bind fun t950=>(if ((t947++t948)++t949).size + t950.size≤9223372036854775807 then ((q1Number.f kj2 (IntKind.u64.wrap ((l0_4.length:Int)))).bind fun t951=>(if (((t947++t948)++t949)++t950).size + t951.size≤9223372036854775807 then (q7Encode.l0 kj2 ((((t947++t948)++t949)++t950)++t951) 0 a0_0 a0_1 a0_2 a0_3 l0_4) else (none))) else (none))) else (none))) else (none)))) else (some (⟨#[]⟩:ByteArray))))=some r:=by rw [if_neg (show ¬ (false=true) by decide)] at H;exact H
   clear H
   have H:=H1
   clear H1
   replace H:=Option.bind_eq_some_iff.mp H
   obtain ⟨t946,A120,H⟩:=H
   replace H:(if t946=true then ((q1Number.f kj2 (IntKind.u64.wrap (a0_0))).bind fun t947=>((q1Number.f kj2 (IntKind.u64.wrap (a0_1))).bind fun t948=>(if t947.size + t948.size≤9223372036854775807 then ((q1Text.f kj2 a0_2).bind fun t949=>(if (t947++t948).size + t949.size≤9223372036854775807 then ((q1Text.f kj2 a0_3).bind fun t950=>(if ((t947++t948)++t949).size + t950.size≤9223372036854775807 then ((q1Number.f kj2 (IntKind.u64.wrap ((l0_4.length:Int)))).bind fun t951=>(if (((t947++t948)++t949)++t950).size + t951.size≤9223372036854775807 then (q7Encode.l0 kj2 ((((t947++t948)++t949)++t950)++t951) 0 a0_0 a0_1 a0_2 a0_3 l0_4) else (none))) else (none))) else (none))) else (none)))) else (some (⟨#[]⟩:ByteArray)))=some r:=H
   have A12:=Z0.mk A120
   clear A120
   by_cases c13 : t946=true
   ·subst c13
    have H1:((q1Number.f kj2 (IntKind.u64.wrap (a0_0))).bind fun t947=>((q1Number.f kj2 (IntKind.u64.wrap (a0_1))).bind fun t948=>(if t947.size + t948.size≤9223372036854775807 then ((q1Text.f kj2 a0_2).bind fun t949=>(if (t947++t948).size + t949.size≤9223372036854775807 then ((q1Text.f kj2 a0_3).bind fun t950=>(if ((t947++t948)++t949).size + t950.size≤9223372036854775807 then ((q1Number.f kj2 (IntKind.u64.wrap ((l0_4.length:Int)))).bind fun t951=>(if (((t947++t948)++t949)++t950).size + t951.size≤9223372036854775807 then (q7Encode.l0 kj2 ((((t947++t948)++t949)++t950)++t951) 0 a0_0 a0_1 a0_2 a0_3 l0_4) else (none))) else (none))) else (none))) else (none))))=some r:=by rw [if_pos rfl] at H;exact H
    clear H
    have H:=H1
    clear H1
    replace H:=Option.bind_eq_some_iff.mp H
    obtain ⟨t947,A140,H⟩:=H
    replace H:((q1Number.f kj2 (IntKind.u64.wrap (a0_1))).bind fun t948=>(if t947.size + t948.size≤9223372036854775807 then ((q1Text.f kj2 a0_2).bind fun t949=>(if (t947++t948).size + t949.size≤9223372036854775807 then ((q1Text.f kj2 a0_3).bind fun t950=>(if ((t947++t948)++t949).size + t950.size≤9223372036854775807 then ((q1Number.f kj2 (IntKind.u64.wrap ((l0_4.length:Int)))).bind fun t951=>(if (((t947++t948)++t949)++t950).size + t951.size≤9223372036854775807 then (q7Encode.l0 kj2 ((((t947++t948)++t949)++t950)++t951) 0 a0_0 a0_1 a0_2 a0_3 l0_4) else (none))) else (none))) else (none))) else (none)))=some r:=H
    have A14:=Z0.mk A140
    clear A140
    replace H:=Option.bind_eq_some_iff.mp H
    obtain ⟨t948,A150,H⟩:=H
    replace H:(if t947.size + t948.size≤9223372036854775807 then ((q1Text.f kj2 a0_2).bind fun t949=>(if (t947++t948).size + t949.size≤9223372036854775807 then ((q1Text.f kj2 a0_3).bind fun t950=>(if ((t947++t948)++t949).size + t950.size≤9223372036854775807 then ((q1Number.f kj2 (IntKind.u64.wrap ((l0_4.length:Int)))).bind fun t951=>(if (((t947++t948)++t949)++t950).size + t951.size≤9223372036854775807 then (q7Encode.l0 kj2 ((((t947++t948)++t949)++t950)++t951) 0 a0_0 a0_1 a0_2 a0_3 l0_4) else (none))) else (none))) else (none))) else (none))=some r:=H
    have A15:=Z0.mk A150
    clear A150
    by_cases c16 : t947.size + t948.size≤9223372036854775807
    ·rw [if_pos c16] at H
     have c16b0:=eq_true c16
     have c16b1 : decide (t947.size + t948.size≤9223372036854775807)=true:=decide_eq_true c16
     try have c16b2:(9223372036854775807 < t947.size + t948.size)=False:=eq_false (Nat.not_lt.2 c16)
     replace H:=Option.bind_eq_some_iff.mp H
     obtain ⟨t949,A170,H⟩:=H
     replace H:(if (t947++t948).size + t949.size≤9223372036854775807 then ((q1Text.f kj2 a0_3).bind fun t950=>(if ((t947++t948)++t949).size + t950.size≤9223372036854775807 then ((q1Number.f kj2 (IntKind.u64.wrap ((l0_4.length:Int)))).bind fun t951=>(if (((t947++t948)++t949)++t950).size + t951.size≤9223372036854775807 then (q7Encode.l0 kj2 ((((t947++t948)++t949)++t950)++t951) 0 a0_0 a0_1 a0_2 a0_3 l0_4) else (none))) else (none))) else (none))=some r:=H
     have A17:=Z0.mk A170
     clear A170
     by_cases c18:(t947++t948).size + t949.size≤9223372036854775807
     ·rw [if_pos c18] at H
      have c18b0:=eq_true c18
      have c18b1 : decide ((t947++t948).size + t949.size≤9223372036854775807)=true:=decide_eq_true c18
      try have c18b2:(9223372036854775807 < (t947++t948).size + t949.size)=False:=eq_false (Nat.not_lt.2 c18)
      try (have c18b3:=c18b2;simp only [ByteArray.size_append] at c18b3)
      replace H:=Option.bind_eq_some_iff.mp H
      obtain ⟨t950,A190,H⟩:=H
      replace H:(if ((t947++t948)++t949).size + t950.size≤9223372036854775807 then ((q1Number.f kj2 (IntKind.u64.wrap ((l0_4.length:Int)))).bind fun t951=>(if (((t947++t948)++t949)++t950).size + t951.size≤9223372036854775807 then (q7Encode.l0 kj2 ((((t947++t948)++t949)++t950)++t951) 0 a0_0 a0_1 a0_2 a0_3 l0_4) else (none))) else (none))=some r:=H
      have A19:=Z0.mk A190
      clear A190
      by_cases c20:((t947++t948)++t949).size + t950.size≤9223372036854775807
      ·rw [if_pos c20] at H
       have c20b0:=eq_true c20
       have c20b1 : decide (((t947++t948)++t949).size + t950.size≤9223372036854775807)=true:=decide_eq_true c20
       try have c20b2:(9223372036854775807 < ((t947++t948)++t949).size + t950.size)=False:=eq_false (Nat.not_lt.2 c20)
       try (have c20b3:=c20b2;simp only [ByteArray.size_append] at c20b3)
       replace H:=Option.bind_eq_some_iff.mp H
       obtain ⟨t951,A210,H⟩:=H
       replace H:(if (((t947++t948)++t949)++t950).size + t951.size≤9223372036854775807 then (q7Encode.l0 kj2 ((((t947++t948)++t949)++t950)++t951) 0 a0_0 a0_1 a0_2 a0_3 l0_4) else (none))=some r:=H
       have A21:=Z0.mk A210
       clear A210
       by_cases c22:(((t947++t948)++t949)++t950).size + t951.size≤9223372036854775807
       ·rw [if_pos c22] at H
        have c22b0:=eq_true c22
        have c22b1 : decide ((((t947++t948)++t949)++t950).size + t951.size≤9223372036854775807)=true:=decide_eq_true c22
        try have c22b2:(9223372036854775807 < (((t947++t948)++t949)++t950).size + t951.size)=False:=eq_false (Nat.not_lt.2 c22)
        try (have c22b3:=c22b2;simp only [ByteArray.size_append] at c22b3)
        have H':=Z0.mk H
        clear H
        have hcz23_0 : wc.cell? ⟨gb942,0,none⟩=some (.int .i64 a0_0):=(zkC BK942.out 0).trans rfl
        have hcz23_1 : wc.cell? ⟨gb942,1,none⟩=some (.int .i64 a0_1):=(zkC BK942.out 1).trans rfl
        have hcz23_2 : wc.cell? ⟨gb942,2,none⟩=some (.string a0_2):=(zkC BK942.out 2).trans rfl
        have hcz23_3 : wc.cell? ⟨gb942,3,none⟩=some (.string a0_3):=(zkC BK942.out 3).trans rfl
        have hcz23_4 : wc.cell? ⟨gb942,4,none⟩=some (.slice A0_4 l0_4.length c0_4):=(zkC BK942.out 4).trans rfl
        have hfz23_0:=zkF BK942.out 0
        have hfz23_1:=zkF BK942.out 1
        have hfz23_2:=zkF BK942.out 2
        have hfz23_3:=zkF BK942.out 3
        have hfz23_4:=zkF BK942.out 4
        try go_wp2_with (first|((with_reducible refine gate_callee (f:=86) rfl ?_);refine goesL_ (some 17) rfl rfl Try.func86 (by kernel_rfl) rfl #[.agg #[.int .i64 a0_0,.int .i64 a0_1,.string a0_2,.string a0_3,.slice A0_4 l0_4.length c0_4],.int .i64 a1] rfl (by (try simp only [List.map_toArray,List.map_cons,List.map_nil]);first|done|rfl|(simp only [List.length_drop,List.length_take];rfl)) ?_;(with_reducible refine (q7Valid.calls kj2 a0_0 a0_1 a0_2 a0_3 _ _ l0_4 a1 true _ ?side1 ?side2 A12.out).mono ?_);(case side1=>repeat (first|exact (Kd.C_below HR0_4.out HB.out)|(with_reducible refine Kd.C_alloc ?_ _)|(with_reducible refine Kd.C_drewN ?_ _)|(with_reducible refine Kd.C_drew ?_)));(case side2=>exact HC0_4.out);rintro e w24 ⟨rfl,hb⟩;refine ⟨_,rfl,?_⟩;have n0_:=Z0.mk (blk_below (g:=gb942) (o:=.cells #[.int .i64 a0_0,.int .i64 a0_1,.string a0_2,.string a0_3,.slice A0_4 l0_4.length c0_4] 55 (0,0)) (by (with_reducible repeat (first|refine zkN ?_ _|refine zkD ?_|refine zkA ?_ _));exact BK942.out) hb);have n1_:=Z0.mk (below_step (by repeat (first|(with_reducible first|exact HB.out|apply zbA|apply zbN|apply zb1|refine zbS ?_ GE942.out)|exact HB.out)) hb);clear BK942;clear HB;have BK942:=n0_;have HB:=n1_;clear n0_ n1_;(try clear hb);(try clear hb2);(try clear hk);(try clear hi)))
        have n0_:=Z0.mk (zkD BK942.out)
        have n1_:=Z0.mk (zb1 HB.out)
        clear BK942
        clear HB
        have BK942:=n0_
        have HB:=n1_
        clear n0_ n1_
        refine start_ (n:=24) (S:=fun w'=>w'.cell? ⟨gb942,0,none⟩=some (.int .i64 a0_0)∧w'.cell? ⟨gb942,1,none⟩=some (.int .i64 a0_1)∧w'.cell? ⟨gb942,2,none⟩=some (.string a0_2)∧w'.cell? ⟨gb942,3,none⟩=some (.string a0_3)∧w'.cell? ⟨gb942,4,none⟩=some (.slice A0_4 l0_4.length c0_4)) (ds:=[]) #[false,false,false,false,false,false,false,false,false,false,false,false,false,false,false,false,false,false,false,false,false,false,false,false] (by kernel_rfl) rfl rfl ⟨(zkC BK942.out 0).trans rfl,(zkC BK942.out 1).trans rfl,(zkC BK942.out 2).trans rfl,(zkC BK942.out 3).trans rfl,(zkC BK942.out 4).trans rfl⟩ (fun hHeld=>?_);refine with_tabW q7Encode.tab5 q7Encode.bits5 (fun HT_ HW_=>?_)
        generalize w24.drew=w25 at BK942 HB hHeld ⊢
        refine pure_ (i:=0) (N:=some 19) (v:=?_) (a':=?_) #[true,false,false,false,false,false,false,false,false,false,false,false,false,false,false,false,false,false,false,false,false,false,false,false] rfl rfl (any_of HT_.out (by kernel_rfl)) (fun _ _ _ h=>h) (Or.inl ⟨by rfl,?_⟩) ?_ ?_
        rotate_left
        ·intro w'
         go_simp
         with_reducible rfl
        rotate_left
        ·simp only [Act.put,List.setIfInBounds_toArray,List.set_cons_zero,List.set_cons_succ,i64_w,i32_w]
         rfl
        refine pure_ (i:=4) (N:=some 23) (v:=?_) (a':=?_) #[true,false,false,false,true,false,false,false,false,false,false,false,false,false,false,false,false,false,false,false,false,false,false,false] rfl rfl (any_of HT_.out (by kernel_rfl)) (fun _ _ _ h=>h) (Or.inl ⟨by rfl,?_⟩) ?_ ?_
        rotate_left
        ·intro w'
         go_simp
         with_reducible rfl
        rotate_left
        ·simp only [Act.put,List.setIfInBounds_toArray,List.set_cons_zero,List.set_cons_succ,i64_w,i32_w]
         rfl
        refine pure_ (i:=9) (N:=some 28) (v:=?_) (a':=?_) #[true,false,false,false,true,false,false,false,false,true,false,false,false,false,false,false,false,false,false,false,false,false,false,false] rfl rfl (any_of HT_.out (by kernel_rfl)) (fun _ _ _ h=>h) (Or.inl ⟨by rfl,?_⟩) ?_ ?_
        rotate_left
        ·intro w'
         go_simp
         with_reducible rfl
        rotate_left
        ·simp only [Act.put,List.setIfInBounds_toArray,List.set_cons_zero,List.set_cons_succ,i64_w,i32_w]
         rfl
        refine pure_ (i:=13) (N:=some 32) (v:=?_) (a':=?_) #[true,false,false,false,true,false,false,false,false,true,false,false,false,true,false,false,false,false,false,false,false,false,false,false] rfl rfl (any_of HT_.out (by kernel_rfl)) (fun _ _ _ h=>h) (Or.inl ⟨by rfl,?_⟩) ?_ ?_
        rotate_left
        ·intro w'
         go_simp
         with_reducible rfl
        rotate_left
        ·simp only [Act.put,List.setIfInBounds_toArray,List.set_cons_zero,List.set_cons_succ,i64_w,i32_w]
         rfl
        refine pure_ (i:=17) (N:=some 36) (v:=?_) (a':=?_) #[true,false,false,false,true,false,false,false,false,true,false,false,false,true,false,false,false,true,false,false,false,false,false,false] rfl rfl (any_of HT_.out (by kernel_rfl)) (fun _ _ _ h=>h) (Or.inl ⟨by rfl,?_⟩) ?_ ?_
        rotate_left
        ·intro w'
         go_simp
         with_reducible rfl
        rotate_left
        ·simp only [Act.put,List.setIfInBounds_toArray,List.set_cons_zero,List.set_cons_succ,i64_w,i32_w]
         rfl
        refine take_ (i:=1) (N:=some 20) (v:=?_) (a':=?_) #[true,true,false,false,true,false,false,false,false,true,false,false,false,true,false,false,false,true,false,false,false,false,false,false] rfl rfl (take_ofW HT_.out HW_.out (by kernel_rfl)) (fun _ _ _ h=>h) (Or.inl ⟨by rfl,?_⟩) hHeld ?_ ?_
        rotate_left
        ·rintro w' ⟨s0,s1,s2,s3,s4⟩
         go_simp
         with_reducible rfl
        rotate_left
        ·simp only [Act.put,List.setIfInBounds_toArray,List.set_cons_zero,List.set_cons_succ,i64_w,i32_w]
         rfl
        refine pure_ (i:=2) (N:=some 21) (v:=?_) (a':=?_) #[true,true,true,false,true,false,false,false,false,true,false,false,false,true,false,false,false,true,false,false,false,false,false,false] rfl rfl (any_of HT_.out (by kernel_rfl)) (fun _ _ _ h=>h) (Or.inl ⟨by rfl,?_⟩) ?_ ?_
        rotate_left
        ·intro w'
         go_simp
         with_reducible rfl
        rotate_left
        ·simp only [Act.put,List.setIfInBounds_toArray,List.set_cons_zero,List.set_cons_succ,i64_w,i32_w]
         rfl
        refine take_ (i:=5) (N:=some 24) (v:=?_) (a':=?_) #[true,true,true,false,true,true,false,false,false,true,false,false,false,true,false,false,false,true,false,false,false,false,false,false] rfl rfl (take_ofW HT_.out HW_.out (by kernel_rfl)) (fun _ _ _ h=>h) (Or.inl ⟨by rfl,?_⟩) hHeld ?_ ?_
        rotate_left
        ·rintro w' ⟨s0,s1,s2,s3,s4⟩
         go_simp
         with_reducible rfl
        rotate_left
        ·simp only [Act.put,List.setIfInBounds_toArray,List.set_cons_zero,List.set_cons_succ,i64_w,i32_w]
         rfl
        refine pure_ (i:=6) (N:=some 25) (v:=?_) (a':=?_) #[true,true,true,false,true,true,true,false,false,true,false,false,false,true,false,false,false,true,false,false,false,false,false,false] rfl rfl (any_of HT_.out (by kernel_rfl)) (fun _ _ _ h=>h) (Or.inl ⟨by rfl,?_⟩) ?_ ?_
        rotate_left
        ·intro w'
         go_simp
         with_reducible rfl
        rotate_left
        ·simp only [Act.put,List.setIfInBounds_toArray,List.set_cons_zero,List.set_cons_succ,i64_w,i32_w]
         rfl
        refine take_ (i:=10) (N:=some 29) (v:=?_) (a':=?_) #[true,true,true,false,true,true,true,false,false,true,true,false,false,true,false,false,false,true,false,false,false,false,false,false] rfl rfl (take_ofW HT_.out HW_.out (by kernel_rfl)) (fun _ _ _ h=>h) (Or.inl ⟨by rfl,?_⟩) hHeld ?_ ?_
        rotate_left
        ·rintro w' ⟨s0,s1,s2,s3,s4⟩
         go_simp
         with_reducible rfl
        rotate_left
        ·simp only [Act.put,List.setIfInBounds_toArray,List.set_cons_zero,List.set_cons_succ,i64_w,i32_w]
         rfl
        refine take_ (i:=14) (N:=some 33) (v:=?_) (a':=?_) #[true,true,true,false,true,true,true,false,false,true,true,false,false,true,true,false,false,true,false,false,false,false,false,false] rfl rfl (take_ofW HT_.out HW_.out (by kernel_rfl)) (fun _ _ _ h=>h) (Or.inl ⟨by rfl,?_⟩) hHeld ?_ ?_
        rotate_left
        ·rintro w' ⟨s0,s1,s2,s3,s4⟩
         go_simp
         with_reducible rfl
        rotate_left
        ·simp only [Act.put,List.setIfInBounds_toArray,List.set_cons_zero,List.set_cons_succ,i64_w,i32_w]
         rfl
        refine take_ (i:=18) (N:=some 37) (v:=?_) (a':=?_) #[true,true,true,false,true,true,true,false,false,true,true,false,false,true,true,false,false,true,true,false,false,false,false,false] rfl rfl (take_ofW HT_.out HW_.out (by kernel_rfl)) (fun _ _ _ h=>h) (Or.inl ⟨by rfl,?_⟩) hHeld ?_ ?_
        rotate_left
        ·rintro w' ⟨s0,s1,s2,s3,s4⟩
         go_simp
         with_reducible rfl
        rotate_left
        ·simp only [Act.put,List.setIfInBounds_toArray,List.set_cons_zero,List.set_cons_succ,i64_w,i32_w]
         rfl
        refine pure_ (i:=19) (N:=some 38) (v:=?_) (a':=?_) #[true,true,true,false,true,true,true,false,false,true,true,false,false,true,true,false,false,true,true,true,false,false,false,false] rfl rfl (any_of HT_.out (by kernel_rfl)) (fun _ _ _ h=>h) (Or.inl ⟨by rfl,?_⟩) ?_ ?_
        rotate_left
        ·intro w'
         go_simp
         with_reducible rfl
        rotate_left
        ·simp only [Act.put,List.setIfInBounds_toArray,List.set_cons_zero,List.set_cons_succ,i64_w,i32_w]
         rfl
        refine pure_ (i:=20) (N:=some 39) (v:=?_) (a':=?_) #[true,true,true,false,true,true,true,false,false,true,true,false,false,true,true,false,false,true,true,true,true,false,false,false] rfl rfl (any_of HT_.out (by kernel_rfl)) (fun _ _ _ h=>h) (Or.inl ⟨by rfl,?_⟩) ?_ ?_
        rotate_left
        ·intro w'
         go_simp
         with_reducible rfl
        rotate_left
        ·simp only [Act.put,List.setIfInBounds_toArray,List.set_cons_zero,List.set_cons_succ,i64_w,i32_w]
         rfl
        refine one_ (i:=3) (N:=some 22) #[true,true,true,true,true,true,true,false,false,true,true,false,false,true,true,false,false,true,true,true,true,false,false,false] rfl rfl (one_of HT_.out (by kernel_rfl)) (by decide) (fun K hK=>?_)
        refine goes_ Try.func27 (by kernel_rfl) rfl #[.int .u64 (IntKind.u64.wrap (a0_0))] (by rfl) rfl rfl (by (try simp only [List.map_toArray,List.map_cons,List.map_nil]);first|done|rfl|(simp only [List.length_drop,List.length_take];rfl)) ?_
        with_reducible refine (q1Number.calls kj2 (IntKind.u64.wrap (a0_0)) t947 _ A14.out).mono ?_
        rintro e w26 ⟨rfl,hb⟩
        refine ⟨_,rfl,?_⟩
        have n0_:=Z0.mk (blk_below (g:=gb942) (o:=.cells #[.int .i64 a0_0,.int .i64 a0_1,.string a0_2,.string a0_3,.slice A0_4 l0_4.length c0_4] 55 (0,0)) (by (with_reducible repeat (first|refine zkN ?_ _|refine zkD ?_|refine zkA ?_ _));exact BK942.out) hb)
        have n1_:=Z0.mk (below_step (by repeat (first|(with_reducible first|exact HB.out|apply zbA|apply zbN|apply zb1|refine zbS ?_ GE942.out)|exact HB.out)) hb)
        clear BK942
        clear HB
        have BK942:=n0_
        have HB:=n1_
        clear n0_ n1_
        (try clear hb)
        (try clear hb2)
        (try clear hk)
        (try clear hi)
        refine hK.out _ _ ⟨(zkC BK942.out 0).trans rfl,(zkC BK942.out 1).trans rfl,(zkC BK942.out 2).trans rfl,(zkC BK942.out 3).trans rfl,(zkC BK942.out 4).trans rfl⟩ (fun hHeld=>?_)
        clear hK K
        refine norm_ (a':=?_) ?_ ?_
        rotate_left
        ·show Act.put _ (some 22) _=_
         simp only [Act.put,List.setIfInBounds_toArray,List.set_cons_zero,List.set_cons_succ,i64_w,i32_w]
         rfl
        refine one_ (i:=7) (N:=some 26) #[true,true,true,true,true,true,true,true,false,true,true,false,false,true,true,false,false,true,true,true,true,false,false,false] rfl rfl (one_of HT_.out (by kernel_rfl)) (by decide) (fun K hK=>?_)
        refine goes_ Try.func27 (by kernel_rfl) rfl #[.int .u64 (IntKind.u64.wrap (a0_1))] (by rfl) rfl rfl (by (try simp only [List.map_toArray,List.map_cons,List.map_nil]);first|done|rfl|(simp only [List.length_drop,List.length_take];rfl)) ?_
        with_reducible refine (q1Number.calls kj2 (IntKind.u64.wrap (a0_1)) t948 _ A15.out).mono ?_
        rintro e w27 ⟨rfl,hb⟩
        refine ⟨_,rfl,?_⟩
        have n0_:=Z0.mk (blk_below (g:=gb942) (o:=.cells #[.int .i64 a0_0,.int .i64 a0_1,.string a0_2,.string a0_3,.slice A0_4 l0_4.length c0_4] 55 (0,0)) (by (with_reducible repeat (first|refine zkN ?_ _|refine zkD ?_|refine zkA ?_ _));exact BK942.out) hb)
        have n1_:=Z0.mk (below_step (by repeat (first|(with_reducible first|exact HB.out|apply zbA|apply zbN|apply zb1|refine zbS ?_ GE942.out)|exact HB.out)) hb)
        clear BK942
        clear HB
        have BK942:=n0_
        have HB:=n1_
        clear n0_ n1_
        (try clear hb)
        (try clear hb2)
        (try clear hk)
        (try clear hi)
        refine hK.out _ _ ⟨(zkC BK942.out 0).trans rfl,(zkC BK942.out 1).trans rfl,(zkC BK942.out 2).trans rfl,(zkC BK942.out 3).trans rfl,(zkC BK942.out 4).trans rfl⟩ (fun hHeld=>?_)
        clear hK K
        refine norm_ (a':=?_) ?_ ?_
        rotate_left
        ·show Act.put _ (some 26) _=_
         simp only [Act.put,List.setIfInBounds_toArray,List.set_cons_zero,List.set_cons_succ,i64_w,i32_w]
         rfl
        refine pure_ (i:=8) (N:=some 27) (v:=?_) (a':=?_) #[true,true,true,true,true,true,true,true,true,true,true,false,false,true,true,false,false,true,true,true,true,false,false,false] rfl rfl (any_of HT_.out (by kernel_rfl)) (fun _ _ _ h=>h) (Or.inl ⟨by rfl,?_⟩) ?_ ?_
        rotate_left
        ·intro w'
         go_simp
         with_reducible rfl
        rotate_left
        ·simp only [Act.put,List.setIfInBounds_toArray,List.set_cons_zero,List.set_cons_succ,i64_w,i32_w]
         rfl
        refine one_ (i:=11) (N:=some 30) #[true,true,true,true,true,true,true,true,true,true,true,true,false,true,true,false,false,true,true,true,true,false,false,false] rfl rfl (one_of HT_.out (by kernel_rfl)) (by decide) (fun K hK=>?_)
        refine goes_ Try.func33 (by kernel_rfl) rfl #[.string a0_2] (by rfl) rfl rfl (by (try simp only [List.map_toArray,List.map_cons,List.map_nil]);first|done|rfl|(simp only [List.length_drop,List.length_take];rfl)) ?_
        with_reducible refine (q1Text.calls kj2 a0_2 t949 _ A17.out).mono ?_
        rintro e w28 ⟨rfl,hb⟩
        refine ⟨_,rfl,?_⟩
        have n0_:=Z0.mk (blk_below (g:=gb942) (o:=.cells #[.int .i64 a0_0,.int .i64 a0_1,.string a0_2,.string a0_3,.slice A0_4 l0_4.length c0_4] 55 (0,0)) (by (with_reducible repeat (first|refine zkN ?_ _|refine zkD ?_|refine zkA ?_ _));exact BK942.out) hb)
        have n1_:=Z0.mk (below_step (by repeat (first|(with_reducible first|exact HB.out|apply zbA|apply zbN|apply zb1|refine zbS ?_ GE942.out)|exact HB.out)) hb)
        clear BK942
        clear HB
        have BK942:=n0_
        have HB:=n1_
        clear n0_ n1_
        (try clear hb)
        (try clear hb2)
        (try clear hk)
        (try clear hi)
        refine hK.out _ _ ⟨(zkC BK942.out 0).trans rfl,(zkC BK942.out 1).trans rfl,(zkC BK942.out 2).trans rfl,(zkC BK942.out 3).trans rfl,(zkC BK942.out 4).trans rfl⟩ (fun hHeld=>?_)
        clear hK K
        refine norm_ (a':=?_) ?_ ?_
        rotate_left
        ·show Act.put _ (some 30) _=_
         simp only [Act.put,List.setIfInBounds_toArray,List.set_cons_zero,List.set_cons_succ,i64_w,i32_w]
         rfl
        refine pure_ (i:=12) (N:=some 31) (v:=?_) (a':=?_) #[true,true,true,true,true,true,true,true,true,true,true,true,true,true,true,false,false,true,true,true,true,false,false,false] rfl rfl (any_of HT_.out (by kernel_rfl)) (fun _ _ _ h=>h) (Or.inl ⟨by rfl,?_⟩) ?_ ?_
        rotate_left
        ·intro w'
         go_simp
         with_reducible rfl
        rotate_left
        ·simp only [Act.put,List.setIfInBounds_toArray,List.set_cons_zero,List.set_cons_succ,i64_w,i32_w]
         rfl
        refine one_ (i:=15) (N:=some 34) #[true,true,true,true,true,true,true,true,true,true,true,true,true,true,true,true,false,true,true,true,true,false,false,false] rfl rfl (one_of HT_.out (by kernel_rfl)) (by decide) (fun K hK=>?_)
        refine goes_ Try.func33 (by kernel_rfl) rfl #[.string a0_3] (by rfl) rfl rfl (by (try simp only [List.map_toArray,List.map_cons,List.map_nil]);first|done|rfl|(simp only [List.length_drop,List.length_take];rfl)) ?_
        with_reducible refine (q1Text.calls kj2 a0_3 t950 _ A19.out).mono ?_
        rintro e w29 ⟨rfl,hb⟩
        refine ⟨_,rfl,?_⟩
        have n0_:=Z0.mk (blk_below (g:=gb942) (o:=.cells #[.int .i64 a0_0,.int .i64 a0_1,.string a0_2,.string a0_3,.slice A0_4 l0_4.length c0_4] 55 (0,0)) (by (with_reducible repeat (first|refine zkN ?_ _|refine zkD ?_|refine zkA ?_ _));exact BK942.out) hb)
        have n1_:=Z0.mk (below_step (by repeat (first|(with_reducible first|exact HB.out|apply zbA|apply zbN|apply zb1|refine zbS ?_ GE942.out)|exact HB.out)) hb)
        clear BK942
        clear HB
        have BK942:=n0_
        have HB:=n1_
        clear n0_ n1_
        (try clear hb)
        (try clear hb2)
        (try clear hk)
        (try clear hi)
        refine hK.out _ _ ⟨(zkC BK942.out 0).trans rfl,(zkC BK942.out 1).trans rfl,(zkC BK942.out 2).trans rfl,(zkC BK942.out 3).trans rfl,(zkC BK942.out 4).trans rfl⟩ (fun hHeld=>?_)
        clear hK K
        refine norm_ (a':=?_) ?_ ?_
        rotate_left
        ·show Act.put _ (some 34) _=_
         simp only [Act.put,List.setIfInBounds_toArray,List.set_cons_zero,List.set_cons_succ,i64_w,i32_w]
         rfl
        refine pure_ (i:=16) (N:=some 35) (v:=?_) (a':=?_) #[true,true,true,true,true,true,true,true,true,true,true,true,true,true,true,true,true,true,true,true,true,false,false,false] rfl rfl (any_of HT_.out (by kernel_rfl)) (fun _ _ _ h=>h) (Or.inl ⟨by rfl,?_⟩) ?_ ?_
        rotate_left
        ·intro w'
         go_simp
         with_reducible rfl
        rotate_left
        ·simp only [Act.put,List.setIfInBounds_toArray,List.set_cons_zero,List.set_cons_succ,i64_w,i32_w]
         rfl
        refine one_ (i:=21) (N:=some 40) #[true,true,true,true,true,true,true,true,true,true,true,true,true,true,true,true,true,true,true,true,true,true,false,false] rfl rfl (one_of HT_.out (by kernel_rfl)) (by decide) (fun K hK=>?_)
        refine goes_ Try.func27 (by kernel_rfl) rfl #[.int .u64 (IntKind.u64.wrap ((l0_4.length:Int)))] (by rfl) rfl rfl (by (try simp only [List.map_toArray,List.map_cons,List.map_nil]);first|done|rfl|(simp only [List.length_drop,List.length_take];rfl)) ?_
        with_reducible refine (q1Number.calls kj2 (IntKind.u64.wrap ((l0_4.length:Int))) t951 _ A21.out).mono ?_
        rintro e w30 ⟨rfl,hb⟩
        refine ⟨_,rfl,?_⟩
        have n0_:=Z0.mk (blk_below (g:=gb942) (o:=.cells #[.int .i64 a0_0,.int .i64 a0_1,.string a0_2,.string a0_3,.slice A0_4 l0_4.length c0_4] 55 (0,0)) (by (with_reducible repeat (first|refine zkN ?_ _|refine zkD ?_|refine zkA ?_ _));exact BK942.out) hb)
        have n1_:=Z0.mk (below_step (by repeat (first|(with_reducible first|exact HB.out|apply zbA|apply zbN|apply zb1|refine zbS ?_ GE942.out)|exact HB.out)) hb)
        clear BK942
        clear HB
        have BK942:=n0_
        have HB:=n1_
        clear n0_ n1_
        (try clear hb)
        (try clear hb2)
        (try clear hk)
        (try clear hi)
        refine hK.out _ _ ⟨(zkC BK942.out 0).trans rfl,(zkC BK942.out 1).trans rfl,(zkC BK942.out 2).trans rfl,(zkC BK942.out 3).trans rfl,(zkC BK942.out 4).trans rfl⟩ (fun hHeld=>?_)
        clear hK K
        refine norm_ (a':=?_) ?_ ?_
        rotate_left
        ·show Act.put _ (some 40) _=_
         simp only [Act.put,List.setIfInBounds_toArray,List.set_cons_zero,List.set_cons_succ,i64_w,i32_w]
         rfl
        refine pure_ (i:=22) (N:=some 41) (v:=?_) (a':=?_) #[true,true,true,true,true,true,true,true,true,true,true,true,true,true,true,true,true,true,true,true,true,true,true,false] rfl rfl (any_of HT_.out (by kernel_rfl)) (fun _ _ _ h=>h) (Or.inl ⟨by rfl,?_⟩) ?_ ?_
        rotate_left
        ·intro w'
         go_simp
         with_reducible rfl
        rotate_left
        ·simp only [Act.put,List.setIfInBounds_toArray,List.set_cons_zero,List.set_cons_succ,i64_w,i32_w]
         rfl
        refine pure_ (i:=23) (N:=some 5) (v:=?_) (a':=?_) #[true,true,true,true,true,true,true,true,true,true,true,true,true,true,true,true,true,true,true,true,true,true,true,true] rfl rfl (any_of HT_.out (by kernel_rfl)) (fun _ _ _ h=>h) (Or.inl ⟨by rfl,?_⟩) ?_ ?_
        rotate_left
        ·intro w'
         go_simp
         with_reducible rfl
        rotate_left
        ·simp only [Act.put,List.setIfInBounds_toArray,List.set_cons_zero,List.set_cons_succ,i64_w,i32_w]
         rfl
        refine done_ (done_of HT_.out (by kernel_rfl)) ?_
        try go_wp2
        go_loopg [5,6] kj2 (fun kq v5 v6 w'=>∃ (x5_2:ByteArray) (x6_2:Int),v5=.string x5_2∧v6=.int .i64 x6_2∧Z0 (q7Encode.l0 kq x5_2 x6_2 a0_0 a0_1 a0_2 a0_3 l0_4=some r)∧Z0 (kq≤kj2)∧Z0 (w'.heap[gb942]?=some (.cells #[.int .i64 a0_0,.int .i64 a0_1,.string a0_2,.string a0_3,(.slice A0_4 l0_4.length c0_4)] 55 (0,0)))∧Z0 (Below w.heap.size w w'))
        case atStart=>exact ⟨((((t947++t948)++t949)++t950)++t951),(0),(by first|rfl|(simp;done)|(simp [*];done)),(by first|rfl|(simp;done)|(simp [*];done)),H',⟨Nat.le_refl _⟩,⟨by (with_reducible repeat (first|refine zkN ?_ _|refine zkD ?_|refine zkA ?_ _));exact BK942.out⟩,⟨by repeat (first|(with_reducible first|exact HB.out|apply zbA|apply zbN|apply zb1|refine zbS ?_ GE942.out)|exact HB.out)⟩⟩
        case round =>
         clear H'
         try clear c1
         try clear c2
         try clear p2
         try clear c3
         try clear c6
         try clear c8
         try clear c10
         try clear c13
         try clear c16
         try clear c16b0
         try clear c16b1
         try clear c16b2
         try clear c18
         try clear c18b0
         try clear c18b1
         try clear c18b2
         try clear c20
         try clear c20b0
         try clear c20b1
         try clear c20b2
         try clear c22
         try clear c22b0
         try clear c22b1
         try clear c22b2
         try clear c27
         try clear hcz23_0
         try clear hcz23_1
         try clear hcz23_2
         try clear hcz23_3
         try clear hcz23_4
         try clear hcz8_0
         try clear hcz8_1
         try clear hcz8_2
         try clear hcz8_3
         try clear hcz8_4
         try clear hfz23_0
         try clear hfz23_1
         try clear hfz23_2
         try clear hfz23_3
         try clear hfz23_4
         try clear hfz8_0
         try clear hfz8_1
         try clear hfz8_2
         try clear hfz8_3
         try clear hfz8_4
         try clear p2
         obtain ⟨x5_2,x6_2,rfl,rfl,HA,HK2,BK942,HB⟩:=hrel
         cases gk with
         | zero=>exact absurd HA.out (by simp [q7Encode.l0])
         | succ k2 =>
          have H:=HA.out
          clear HA
          simp only [q7Encode.l0] at H
          by_cases c31 : x6_2 < (l0_4.length:Int)
          ·rw [if_pos c31] at H
           have c31b0 : decide (x6_2 < (l0_4.length:Int))=true:=decide_eq_true c31
           clear c31
           by_cases c32 : 0≤x6_2
           ·rw [if_pos c32] at H
            have c32b0 : decide (0≤x6_2)=true:=decide_eq_true c32
            clear c32
            replace H:=Option.bind_eq_some_iff.mp H
            obtain ⟨t953,A330,H⟩:=H
            replace H:(if x5_2.size + t953.size≤9223372036854775807 then ((q1Number.f k2 (IntKind.u64.wrap ((rd_T103 l0_4 x6_2).f1))).bind fun t955=>(if (x5_2++t953).size + t955.size≤9223372036854775807 then (q7Encode.l0 k2 ((x5_2++t953)++t955) (wrap64 (x6_2 + 1)) a0_0 a0_1 a0_2 a0_3 l0_4) else (none))) else (none))=some r:=H
            have A33:=Z0.mk A330
            clear A330
            by_cases c34 : x5_2.size + t953.size≤9223372036854775807
            ·rw [if_pos c34] at H
             have c34b0:=eq_true c34
             have c34b1 : decide (x5_2.size + t953.size≤9223372036854775807)=true:=decide_eq_true c34
             try have c34b2:(9223372036854775807 < x5_2.size + t953.size)=False:=eq_false (Nat.not_lt.2 c34)
             replace H:=Option.bind_eq_some_iff.mp H
             obtain ⟨t955,A350,H⟩:=H
             replace H:(if (x5_2++t953).size + t955.size≤9223372036854775807 then (q7Encode.l0 k2 ((x5_2++t953)++t955) (wrap64 (x6_2 + 1)) a0_0 a0_1 a0_2 a0_3 l0_4) else (none))=some r:=H
             have A35:=Z0.mk A350
             clear A350
             by_cases c36:(x5_2++t953).size + t955.size≤9223372036854775807
             ·rw [if_pos c36] at H
              have c36b0:=eq_true c36
              have c36b1 : decide ((x5_2++t953).size + t955.size≤9223372036854775807)=true:=decide_eq_true c36
              try have c36b2:(9223372036854775807 < (x5_2++t953).size + t955.size)=False:=eq_false (Nat.not_lt.2 c36)
              try (have c36b3:=c36b2;simp only [ByteArray.size_append] at c36b3)
              have H':=Z0.mk H
              clear H
              have hcz37_0 : wr.cell? ⟨gb942,0,none⟩=some (.int .i64 a0_0):=(zkC BK942.out 0).trans rfl
              have hcz37_1 : wr.cell? ⟨gb942,1,none⟩=some (.int .i64 a0_1):=(zkC BK942.out 1).trans rfl
              have hcz37_2 : wr.cell? ⟨gb942,2,none⟩=some (.string a0_2):=(zkC BK942.out 2).trans rfl
              have hcz37_3 : wr.cell? ⟨gb942,3,none⟩=some (.string a0_3):=(zkC BK942.out 3).trans rfl
              have hcz37_4 : wr.cell? ⟨gb942,4,none⟩=some (.slice A0_4 l0_4.length c0_4):=(zkC BK942.out 4).trans rfl
              have hfz37_0:=zkF BK942.out 0
              have hfz37_1:=zkF BK942.out 1
              have hfz37_2:=zkF BK942.out 2
              have hfz37_3:=zkF BK942.out 3
              have hfz37_4:=zkF BK942.out 4
              try go_wp2
              have n0_:=Z0.mk (zkD BK942.out)
              have n1_:=Z0.mk (zb1 HB.out)
              clear BK942
              clear HB
              have BK942:=n0_
              have HB:=n1_
              clear n0_ n1_
              have p952 : 0≤(x6_2:Int):=of_decide_eq_true (by first|(with_reducible assumption)|assumption)
              have q952 : x6_2 < (l0_4.length:Int):=of_decide_eq_true (by first|(with_reducible assumption)|assumption)
              obtain ⟨ad952,e952,hx952_0,hx952_1⟩:=at_T103 HR0_4.out x6_2 p952 q952
              have hw952_1:=hx952_1
              have hw952_0:=hx952_0
              cases e952
              replace hx952_0:=(HB.out.cell (World.block_lt_of_cell? w _ hx952_0)).trans hx952_0
              replace hx952_1:=(HB.out.cell (World.block_lt_of_cell? w _ hx952_1)).trans hx952_1
              replace p952:=eq_true p952
              replace q952:=eq_true q952
              have p954 : 0≤(x6_2:Int):=of_decide_eq_true (by first|(with_reducible assumption)|assumption)
              have q954 : x6_2 < (l0_4.length:Int):=of_decide_eq_true (by first|(with_reducible assumption)|assumption)
              obtain ⟨ad954,e954,hx954_0,hx954_1⟩:=at_T103 HR0_4.out x6_2 p954 q954
              have hw954_1:=hx954_1
              have hw954_0:=hx954_0
              obtain rfl : ad952=ad954:=(by injection e954)
              replace hx954_0:=(HB.out.cell (World.block_lt_of_cell? w _ hx954_0)).trans hx954_0
              replace hx954_1:=(HB.out.cell (World.block_lt_of_cell? w _ hx954_1)).trans hx954_1
              replace p954:=eq_true p954
              replace q954:=eq_true q954
              refine start_ (n:=20) (S:=fun w'=>w'.cell? ⟨gb942,0,none⟩=some (.int .i64 a0_0)∧w'.cell? ⟨gb942,1,none⟩=some (.int .i64 a0_1)∧w'.cell? ⟨gb942,2,none⟩=some (.string a0_2)∧w'.cell? ⟨gb942,3,none⟩=some (.string a0_3)∧w'.cell? ⟨gb942,4,none⟩=some (.slice (some ad952) l0_4.length c0_4)∧w'.cell? (ad952.add ((x6_2).toNat * 2))=some (.int .i64 ((rd_T103 l0_4 x6_2).f0))∧w'.cell? ⟨(ad952.add ((x6_2).toNat * 2)).block,(ad952.add ((x6_2).toNat * 2)).off + 1,none⟩=some (.int .i64 ((rd_T103 l0_4 x6_2).f1))∧w'.cell? (ad952.add ((x6_2).toNat * 2))=some (.int .i64 ((rd_T103 l0_4 x6_2).f0))∧w'.cell? ⟨(ad952.add ((x6_2).toNat * 2)).block,(ad952.add ((x6_2).toNat * 2)).off + 1,none⟩=some (.int .i64 ((rd_T103 l0_4 x6_2).f1))) (ds:=[]) #[false,false,false,false,false,false,false,false,false,false,false,false,false,false,false,false,false,false,false,false] (by kernel_rfl) rfl rfl ⟨(zkC BK942.out 0).trans rfl,(zkC BK942.out 1).trans rfl,(zkC BK942.out 2).trans rfl,(zkC BK942.out 3).trans rfl,(zkC BK942.out 4).trans rfl,((HB.out.cell (World.block_lt_of_cell? w _ hw952_0)).trans hw952_0),((HB.out.cell (World.block_lt_of_cell? w _ hw952_1)).trans hw952_1),((HB.out.cell (World.block_lt_of_cell? w _ hw954_0)).trans hw954_0),((HB.out.cell (World.block_lt_of_cell? w _ hw954_1)).trans hw954_1)⟩ (fun hHeld=>?_);refine with_tabW q7Encode.tab9 q7Encode.bits9 (fun HT_ HW_=>?_)
              generalize wr.drew=w38 at BK942 HB hx952_0 hx952_1 hx954_0 hx954_1 hHeld ⊢
              refine pure_ (i:=0) (N:=some 49) (v:=?_) (a':=?_) #[true,false,false,false,false,false,false,false,false,false,false,false,false,false,false,false,false,false,false,false] rfl rfl (any_of HT_.out (by kernel_rfl)) (fun _ _ _ h=>h) (Or.inl ⟨by rfl,?_⟩) ?_ ?_
              rotate_left
              ·intro w'
               go_simp
               with_reducible rfl
              rotate_left
              ·simp only [Act.put,List.setIfInBounds_toArray,List.set_cons_zero,List.set_cons_succ,i64_w,i32_w]
               rfl
              refine pure_ (i:=1) (N:=some 50) (v:=?_) (a':=?_) #[true,true,false,false,false,false,false,false,false,false,false,false,false,false,false,false,false,false,false,false] rfl rfl (any_of HT_.out (by kernel_rfl)) (fun _ _ _ h=>h) (Or.inl ⟨by rfl,?_⟩) ?_ ?_
              rotate_left
              ·intro w'
               go_simp
               with_reducible rfl
              rotate_left
              ·simp only [Act.put,List.setIfInBounds_toArray,List.set_cons_zero,List.set_cons_succ,i64_w,i32_w]
               rfl
              refine pure_ (i:=3) (N:=some 52) (v:=?_) (a':=?_) #[true,true,false,true,false,false,false,false,false,false,false,false,false,false,false,false,false,false,false,false] rfl rfl (any_of HT_.out (by kernel_rfl)) (fun _ _ _ h=>h) (Or.inl ⟨by rfl,?_⟩) ?_ ?_
              rotate_left
              ·intro w'
               go_simp
               with_reducible rfl
              rotate_left
              ·simp only [Act.put,List.setIfInBounds_toArray,List.set_cons_zero,List.set_cons_succ,i64_w,i32_w]
               rfl
              refine pure_ (i:=10) (N:=some 59) (v:=?_) (a':=?_) #[true,true,false,true,false,false,false,false,false,false,true,false,false,false,false,false,false,false,false,false] rfl rfl (any_of HT_.out (by kernel_rfl)) (fun _ _ _ h=>h) (Or.inl ⟨by rfl,?_⟩) ?_ ?_
              rotate_left
              ·intro w'
               go_simp
               with_reducible rfl
              rotate_left
              ·simp only [Act.put,List.setIfInBounds_toArray,List.set_cons_zero,List.set_cons_succ,i64_w,i32_w]
               rfl
              refine pure_ (i:=12) (N:=some 61) (v:=?_) (a':=?_) #[true,true,false,true,false,false,false,false,false,false,true,false,true,false,false,false,false,false,false,false] rfl rfl (any_of HT_.out (by kernel_rfl)) (fun _ _ _ h=>h) (Or.inl ⟨by rfl,?_⟩) ?_ ?_
              rotate_left
              ·intro w'
               go_simp
               with_reducible rfl
              rotate_left
              ·simp only [Act.put,List.setIfInBounds_toArray,List.set_cons_zero,List.set_cons_succ,i64_w,i32_w]
               rfl
              refine take_ (i:=2) (N:=some 51) (v:=?_) (a':=?_) #[true,true,true,true,false,false,false,false,false,false,true,false,true,false,false,false,false,false,false,false] rfl rfl (take_ofW HT_.out HW_.out (by kernel_rfl)) (fun _ _ _ h=>h) (Or.inl ⟨by rfl,?_⟩) hHeld ?_ ?_
              rotate_left
              ·rintro w' ⟨s0,s1,s2,s3,s4,s5,s6,s7,s8⟩
               go_simp
               with_reducible rfl
              rotate_left
              ·simp only [Act.put,List.setIfInBounds_toArray,List.set_cons_zero,List.set_cons_succ,i64_w,i32_w]
               rfl
              refine pure_ (i:=4) (N:=some 53) (v:=?_) (a':=?_) #[true,true,true,true,true,false,false,false,false,false,true,false,true,false,false,false,false,false,false,false] rfl rfl (any_of HT_.out (by kernel_rfl)) (fun _ _ _ h=>h) (Or.inl ⟨by rfl,?_⟩) ?_ ?_
              rotate_left
              ·intro w'
               go_simp
               with_reducible rfl
              rotate_left
              ·simp only [Act.put,List.setIfInBounds_toArray,List.set_cons_zero,List.set_cons_succ,i64_w,i32_w]
               rfl
              refine pure_ (i:=5) (N:=some 54) (v:=?_) (a':=?_) #[true,true,true,true,true,true,false,false,false,false,true,false,true,false,false,false,false,false,false,false] rfl rfl (any_of HT_.out (by kernel_rfl)) (fun _ _ _ h=>h) (Or.inl ⟨by rfl,?_⟩) ?_ ?_
              rotate_left
              ·intro w'
               go_simp
               with_reducible rfl
              rotate_left
              ·simp only [Act.put,List.setIfInBounds_toArray,List.set_cons_zero,List.set_cons_succ,i64_w,i32_w]
               rfl
              refine take_ (i:=6) (N:=some 55) (v:=?_) (a':=?_) #[true,true,true,true,true,true,true,false,false,false,true,false,true,false,false,false,false,false,false,false] rfl rfl (take_ofW HT_.out HW_.out (by kernel_rfl)) (fun _ _ _ h=>h) (Or.inl ⟨by rfl,?_⟩) hHeld ?_ ?_
              rotate_left
              ·rintro w' ⟨s0,s1,s2,s3,s4,s5,s6,s7,s8⟩
               go_simp
               with_reducible rfl
              rotate_left
              ·simp only [Act.put,List.setIfInBounds_toArray,List.set_cons_zero,List.set_cons_succ,i64_w,i32_w]
               rfl
              refine pure_ (i:=7) (N:=some 56) (v:=?_) (a':=?_) #[true,true,true,true,true,true,true,true,false,false,true,false,true,false,false,false,false,false,false,false] rfl rfl (any_of HT_.out (by kernel_rfl)) (fun _ _ _ h=>h) (Or.inl ⟨by rfl,?_⟩) ?_ ?_
              rotate_left
              ·intro w'
               go_simp
               with_reducible rfl
              rotate_left
              ·simp only [Act.put,List.setIfInBounds_toArray,List.set_cons_zero,List.set_cons_succ,i64_w,i32_w]
               rfl
              refine take_ (i:=11) (N:=some 60) (v:=?_) (a':=?_) #[true,true,true,true,true,true,true,true,false,false,true,true,true,false,false,false,false,false,false,false] rfl rfl (take_ofW HT_.out HW_.out (by kernel_rfl)) (fun _ _ _ h=>h) (Or.inl ⟨by rfl,?_⟩) hHeld ?_ ?_
              rotate_left
              ·rintro w' ⟨s0,s1,s2,s3,s4,s5,s6,s7,s8⟩
               go_simp
               with_reducible rfl
              rotate_left
              ·simp only [Act.put,List.setIfInBounds_toArray,List.set_cons_zero,List.set_cons_succ,i64_w,i32_w]
               rfl
              refine pure_ (i:=13) (N:=some 62) (v:=?_) (a':=?_) #[true,true,true,true,true,true,true,true,false,false,true,true,true,true,false,false,false,false,false,false] rfl rfl (any_of HT_.out (by kernel_rfl)) (fun _ _ _ h=>h) (Or.inl ⟨by rfl,?_⟩) ?_ ?_
              rotate_left
              ·intro w'
               go_simp
               with_reducible rfl
              rotate_left
              ·simp only [Act.put,List.setIfInBounds_toArray,List.set_cons_zero,List.set_cons_succ,i64_w,i32_w]
               rfl
              refine pure_ (i:=14) (N:=some 63) (v:=?_) (a':=?_) #[true,true,true,true,true,true,true,true,false,false,true,true,true,true,true,false,false,false,false,false] rfl rfl (any_of HT_.out (by kernel_rfl)) (fun _ _ _ h=>h) (Or.inl ⟨by rfl,?_⟩) ?_ ?_
              rotate_left
              ·intro w'
               go_simp
               with_reducible rfl
              rotate_left
              ·simp only [Act.put,List.setIfInBounds_toArray,List.set_cons_zero,List.set_cons_succ,i64_w,i32_w]
               rfl
              refine take_ (i:=15) (N:=some 64) (v:=?_) (a':=?_) #[true,true,true,true,true,true,true,true,false,false,true,true,true,true,true,true,false,false,false,false] rfl rfl (take_ofW HT_.out HW_.out (by kernel_rfl)) (fun _ _ _ h=>h) (Or.inl ⟨by rfl,?_⟩) hHeld ?_ ?_
              rotate_left
              ·rintro w' ⟨s0,s1,s2,s3,s4,s5,s6,s7,s8⟩
               go_simp
               with_reducible rfl
              rotate_left
              ·simp only [Act.put,List.setIfInBounds_toArray,List.set_cons_zero,List.set_cons_succ,i64_w,i32_w]
               rfl
              refine pure_ (i:=16) (N:=some 65) (v:=?_) (a':=?_) #[true,true,true,true,true,true,true,true,false,false,true,true,true,true,true,true,true,false,false,false] rfl rfl (any_of HT_.out (by kernel_rfl)) (fun _ _ _ h=>h) (Or.inl ⟨by rfl,?_⟩) ?_ ?_
              rotate_left
              ·intro w'
               go_simp
               with_reducible rfl
              rotate_left
              ·simp only [Act.put,List.setIfInBounds_toArray,List.set_cons_zero,List.set_cons_succ,i64_w,i32_w]
               rfl
              refine one_ (i:=8) (N:=some 57) #[true,true,true,true,true,true,true,true,true,false,true,true,true,true,true,true,true,false,false,false] rfl rfl (one_of HT_.out (by kernel_rfl)) (by decide) (fun K hK=>?_)
              refine goes_ Try.func27 (by kernel_rfl) rfl #[.int .u64 (IntKind.u64.wrap ((rd_T103 l0_4 x6_2).f0))] (by rfl) rfl rfl (by (try simp only [List.map_toArray,List.map_cons,List.map_nil]);first|done|rfl|(simp only [List.length_drop,List.length_take];rfl)) ?_
              with_reducible refine (q1Number.calls k2 (IntKind.u64.wrap ((rd_T103 l0_4 x6_2).f0)) t953 _ A33.out).mono ?_
              rintro e w39 ⟨rfl,hb⟩
              refine ⟨_,rfl,?_⟩
              have n0_:=Z0.mk (blk_below (g:=gb942) (o:=.cells #[.int .i64 a0_0,.int .i64 a0_1,.string a0_2,.string a0_3,.slice (some ad952) l0_4.length c0_4] 55 (0,0)) (by (with_reducible repeat (first|refine zkN ?_ _|refine zkD ?_|refine zkA ?_ _));exact BK942.out) hb)
              have n1_:=Z0.mk (below_step (by repeat (first|(with_reducible first|exact HB.out|apply zbA|apply zbN|apply zb1|refine zbS ?_ GE942.out)|exact HB.out)) hb)
              clear BK942
              clear HB
              have BK942:=n0_
              have HB:=n1_
              clear n0_ n1_
              (try clear hb)
              (try clear hb2)
              (try clear hk)
              (try clear hi)
              refine hK.out _ _ ⟨(zkC BK942.out 0).trans rfl,(zkC BK942.out 1).trans rfl,(zkC BK942.out 2).trans rfl,(zkC BK942.out 3).trans rfl,(zkC BK942.out 4).trans rfl,((HB.out.cell (World.block_lt_of_cell? w _ hw952_0)).trans hw952_0),((HB.out.cell (World.block_lt_of_cell? w _ hw952_1)).trans hw952_1),((HB.out.cell (World.block_lt_of_cell? w _ hw954_0)).trans hw954_0),((HB.out.cell (World.block_lt_of_cell? w _ hw954_1)).trans hw954_1)⟩ (fun hHeld=>?_)
              clear hK K
              refine norm_ (a':=?_) ?_ ?_
              rotate_left
              ·show Act.put _ (some 57) _=_
               simp only [Act.put,List.setIfInBounds_toArray,List.set_cons_zero,List.set_cons_succ,i64_w,i32_w]
               rfl
              refine pure_ (i:=9) (N:=some 58) (v:=?_) (a':=?_) #[true,true,true,true,true,true,true,true,true,true,true,true,true,true,true,true,true,false,false,false] rfl rfl (any_of HT_.out (by kernel_rfl)) (fun _ _ _ h=>h) (Or.inl ⟨by rfl,?_⟩) ?_ ?_
              rotate_left
              ·intro w'
               go_simp
               with_reducible rfl
              rotate_left
              ·simp only [Act.put,List.setIfInBounds_toArray,List.set_cons_zero,List.set_cons_succ,i64_w,i32_w]
               rfl
              refine one_ (i:=17) (N:=some 66) #[true,true,true,true,true,true,true,true,true,true,true,true,true,true,true,true,true,true,false,false] rfl rfl (one_of HT_.out (by kernel_rfl)) (by decide) (fun K hK=>?_)
              refine goes_ Try.func27 (by kernel_rfl) rfl #[.int .u64 (IntKind.u64.wrap ((rd_T103 l0_4 x6_2).f1))] (by rfl) rfl rfl (by (try simp only [List.map_toArray,List.map_cons,List.map_nil]);first|done|rfl|(simp only [List.length_drop,List.length_take];rfl)) ?_
              with_reducible refine (q1Number.calls k2 (IntKind.u64.wrap ((rd_T103 l0_4 x6_2).f1)) t955 _ A35.out).mono ?_
              rintro e w40 ⟨rfl,hb⟩
              refine ⟨_,rfl,?_⟩
              have n0_:=Z0.mk (blk_below (g:=gb942) (o:=.cells #[.int .i64 a0_0,.int .i64 a0_1,.string a0_2,.string a0_3,.slice (some ad952) l0_4.length c0_4] 55 (0,0)) (by (with_reducible repeat (first|refine zkN ?_ _|refine zkD ?_|refine zkA ?_ _));exact BK942.out) hb)
              have n1_:=Z0.mk (below_step (by repeat (first|(with_reducible first|exact HB.out|apply zbA|apply zbN|apply zb1|refine zbS ?_ GE942.out)|exact HB.out)) hb)
              clear BK942
              clear HB
              have BK942:=n0_
              have HB:=n1_
              clear n0_ n1_
              (try clear hb)
              (try clear hb2)
              (try clear hk)
              (try clear hi)
              refine hK.out _ _ ⟨(zkC BK942.out 0).trans rfl,(zkC BK942.out 1).trans rfl,(zkC BK942.out 2).trans rfl,(zkC BK942.out 3).trans rfl,(zkC BK942.out 4).trans rfl,((HB.out.cell (World.block_lt_of_cell? w _ hw952_0)).trans hw952_0),((HB.out.cell (World.block_lt_of_cell? w _ hw952_1)).trans hw952_1),((HB.out.cell (World.block_lt_of_cell? w _ hw954_0)).trans hw954_0),((HB.out.cell (World.block_lt_of_cell? w _ hw954_1)).trans hw954_1)⟩ (fun hHeld=>?_)
              clear hK K
              refine norm_ (a':=?_) ?_ ?_
              rotate_left
              ·show Act.put _ (some 66) _=_
               simp only [Act.put,List.setIfInBounds_toArray,List.set_cons_zero,List.set_cons_succ,i64_w,i32_w]
               rfl
              refine pure_ (i:=18) (N:=some 67) (v:=?_) (a':=?_) #[true,true,true,true,true,true,true,true,true,true,true,true,true,true,true,true,true,true,true,false] rfl rfl (any_of HT_.out (by kernel_rfl)) (fun _ _ _ h=>h) (Or.inl ⟨by rfl,?_⟩) ?_ ?_
              rotate_left
              ·intro w'
               go_simp
               with_reducible rfl
              rotate_left
              ·simp only [Act.put,List.setIfInBounds_toArray,List.set_cons_zero,List.set_cons_succ,i64_w,i32_w]
               rfl
              refine pure_ (i:=19) (N:=some 5) (v:=?_) (a':=?_) #[true,true,true,true,true,true,true,true,true,true,true,true,true,true,true,true,true,true,true,true] rfl rfl (any_of HT_.out (by kernel_rfl)) (fun _ _ _ h=>h) (Or.inl ⟨by rfl,?_⟩) ?_ ?_
              rotate_left
              ·intro w'
               go_simp
               with_reducible rfl
              rotate_left
              ·simp only [Act.put,List.setIfInBounds_toArray,List.set_cons_zero,List.set_cons_succ,i64_w,i32_w]
               rfl
              refine done_ (done_of HT_.out (by kernel_rfl)) ?_
              try go_wp2
              go_roundg k2
              case measure=>have:=HJ2.out;have:=HK2.out;omega
              case rel=>exact ⟨((x5_2++t953)++t955),(wrap64 (x6_2 + 1)),(by first|rfl|(simp;done)|(simp [*];done)),(by first|rfl|(simp;done)|(simp [*];done)),H',⟨by have:=HJ2.out;have:=HK2.out;omega⟩,⟨by (with_reducible repeat (first|refine zkN ?_ _|refine zkD ?_|refine zkA ?_ _));exact BK942.out⟩,⟨by repeat (first|(with_reducible first|exact HB.out|apply zbA|apply zbN|apply zb1|refine zbS ?_ GE942.out)|exact HB.out)⟩⟩
             rw [if_neg c36] at H
             exact absurd H (by simp)
            rw [if_neg c34] at H
            exact absurd H (by simp)
           rw [if_neg c32] at H
           exact absurd H (by simp)
          rw [if_neg c31] at H
          have c31b0 : decide (x6_2 < (l0_4.length:Int))=false:=decide_eq_false c31
          clear c31
          replace H:=Option.bind_eq_some_iff.mp H
          obtain ⟨t956,A410,H⟩:=H
          replace H:(some t956)=some r:=H
          have A41:=Z0.mk A410
          clear A410
          obtain rfl:=Option.some.inj H
          have hcz42_0 : wr.cell? ⟨gb942,0,none⟩=some (.int .i64 a0_0):=(zkC BK942.out 0).trans rfl
          have hcz42_1 : wr.cell? ⟨gb942,1,none⟩=some (.int .i64 a0_1):=(zkC BK942.out 1).trans rfl
          have hcz42_2 : wr.cell? ⟨gb942,2,none⟩=some (.string a0_2):=(zkC BK942.out 2).trans rfl
          have hcz42_3 : wr.cell? ⟨gb942,3,none⟩=some (.string a0_3):=(zkC BK942.out 3).trans rfl
          have hcz42_4 : wr.cell? ⟨gb942,4,none⟩=some (.slice A0_4 l0_4.length c0_4):=(zkC BK942.out 4).trans rfl
          have hfz42_0:=zkF BK942.out 0
          have hfz42_1:=zkF BK942.out 1
          have hfz42_2:=zkF BK942.out 2
          have hfz42_3:=zkF BK942.out 3
          have hfz42_4:=zkF BK942.out 4
          go_wp2_with (first|((with_reducible refine gate_callee (f:=103) rfl ?_);refine goesL_ (some 69) rfl rfl Try.func103 (by kernel_rfl) rfl #[.string x5_2,.int .i64 1024] rfl (by (try simp only [List.map_toArray,List.map_cons,List.map_nil]);first|done|rfl|(simp only [List.length_drop,List.length_take];rfl)) ?_;(with_reducible refine (q1Padded.calls k2 x5_2 1024 t956 _ A41.out).mono ?_);rintro e w' ⟨rfl,⟨nd,rfl⟩⟩;refine ⟨_,rfl,?_⟩))
          go_ret
          exact ⟨by first|rfl|(simp [errW_none,errW_some] <;> rfl)|(simp [*,errW_none,errW_some] <;> rfl),by repeat (first|(with_reducible first|exact HB.out|apply zbA|apply zbN|apply zb1|refine zbS ?_ GE942.out)|exact HB.out)⟩
       rw [if_neg c22] at H
       exact absurd H (by simp)
      rw [if_neg c20] at H
      exact absurd H (by simp)
     rw [if_neg c18] at H
     exact absurd H (by simp)
    rw [if_neg c16] at H
    exact absurd H (by simp)
   replace c13:=Bool.eq_false_iff.mpr c13
   subst c13
   have H1:(some (⟨#[]⟩:ByteArray))=some r:=by rw [if_neg (show ¬ (false=true) by decide)] at H;exact H
   clear H
   have H:=H1
   clear H1
   obtain rfl:=Option.some.inj H
   have hcz43_0 : wc.cell? ⟨gb942,0,none⟩=some (.int .i64 a0_0):=(zkC BK942.out 0).trans rfl
   have hcz43_1 : wc.cell? ⟨gb942,1,none⟩=some (.int .i64 a0_1):=(zkC BK942.out 1).trans rfl
   have hcz43_2 : wc.cell? ⟨gb942,2,none⟩=some (.string a0_2):=(zkC BK942.out 2).trans rfl
   have hcz43_3 : wc.cell? ⟨gb942,3,none⟩=some (.string a0_3):=(zkC BK942.out 3).trans rfl
   have hcz43_4 : wc.cell? ⟨gb942,4,none⟩=some (.slice A0_4 l0_4.length c0_4):=(zkC BK942.out 4).trans rfl
   have hfz43_0:=zkF BK942.out 0
   have hfz43_1:=zkF BK942.out 1
   have hfz43_2:=zkF BK942.out 2
   have hfz43_3:=zkF BK942.out 3
   have hfz43_4:=zkF BK942.out 4
   go_wp2_with (first|((with_reducible refine gate_callee (f:=86) rfl ?_);refine goesL_ (some 17) rfl rfl Try.func86 (by kernel_rfl) rfl #[.agg #[.int .i64 a0_0,.int .i64 a0_1,.string a0_2,.string a0_3,.slice A0_4 l0_4.length c0_4],.int .i64 a1] rfl (by (try simp only [List.map_toArray,List.map_cons,List.map_nil]);first|done|rfl|(simp only [List.length_drop,List.length_take];rfl)) ?_;(with_reducible refine (q7Valid.calls kj2 a0_0 a0_1 a0_2 a0_3 _ _ l0_4 a1 false _ ?side1 ?side2 A12.out).mono ?_);(case side1=>repeat (first|exact (Kd.C_below HR0_4.out HB.out)|(with_reducible refine Kd.C_alloc ?_ _)|(with_reducible refine Kd.C_drewN ?_ _)|(with_reducible refine Kd.C_drew ?_)));(case side2=>exact HC0_4.out);rintro e w44 ⟨rfl,hb⟩;refine ⟨_,rfl,?_⟩;have n0_:=Z0.mk (blk_below (g:=gb942) (o:=.cells #[.int .i64 a0_0,.int .i64 a0_1,.string a0_2,.string a0_3,.slice A0_4 l0_4.length c0_4] 55 (0,0)) (by (with_reducible repeat (first|refine zkN ?_ _|refine zkD ?_|refine zkA ?_ _));exact BK942.out) hb);have n1_:=Z0.mk (below_step (by repeat (first|(with_reducible first|exact HB.out|apply zbA|apply zbN|apply zb1|refine zbS ?_ GE942.out)|exact HB.out)) hb);clear BK942;clear HB;have BK942:=n0_;have HB:=n1_;clear n0_ n1_;(try clear hb);(try clear hb2);(try clear hk);(try clear hi)))
   go_ret
   exact ⟨by first|rfl|(simp [errW_none,errW_some] <;> rfl)|(simp [*,errW_none,errW_some] <;> rfl),by repeat (first|(with_reducible first|exact HB.out|apply zbA|apply zbN|apply zb1|refine zbS ?_ GE942.out)|exact HB.out)⟩
end Go.Proofs.Ytegefemkmdlmaaa.P
