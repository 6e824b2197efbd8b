import Derived.Test.YtegefemkmdlmaaaF0
import Derived.Test.YtegefemkmdlmaaaQe
import Derived.Test.YtegefemkmdlmaaaQa
namespace Go.Proofs.Ytegefemkmdlmaaa.P
open Go.RowKit Go.Proofs.YtegefemkmdlmaaaW.PrintWords Go.Proofs.YtegefemkmdlmaaaW.PrintLast Go.Proofs.YtegefemkmdlmaaaW.PrintMore
attribute [local go_sem] max2_int min2_int max_two min_two max_three min_three max_four min_four
set_option linter.unusedVariables false
set_option linter.unusedSimpArgs false
mutual
def label_Decode.j0:Nat→ByteArray→Int→Bool→Option (Int×Int×ByteArray×ByteArray×(List (S103))×Int)
 | 0,_,_,_=>none
 | k + 1,x0,x1,x15=>if x15=true then (some (0,0,(⟨#[]⟩:ByteArray),(⟨#[]⟩:ByteArray),([]:List (S103)),11)) else ((label_fill.f (⟨#[]⟩:ByteArray)).bind fun t523=>(if x0.toList=t523.toList then (some (0,0,(⟨#[]⟩:ByteArray),(⟨#[]⟩:ByteArray),([]:List (S103)),0)) else ((wire_NewReader.f x0).bind fun bt524=>((wire_Reader_Count.f bt524.1 bt524.2 1099511627776).bind fun bt527=>((wire_Reader_Count.f bt527.2.1 bt527.2.2 1099511627776).bind fun bt530=>((wire_Reader_Text.f bt530.2.1 bt530.2.2 31).bind fun bt533=>((wire_Reader_Text.f bt533.2.1 bt533.2.2 400).bind fun bt536=>((wire_Reader_Count.f bt536.2.1 bt536.2.2 16).bind fun bt540=>(label_Decode.l0 k x0 x1 bt540.1 0 bt540.2.1 bt540.2.2 bt527.1 bt530.1 bt533.1 bt536.1 ([]:List (S103)))))))))))
def label_Decode.l0:Nat→ByteArray→Int→Int→Int→ByteArray→Int→Int→Int→ByteArray→ByteArray→List (S103)→Option (Int×Int×ByteArray×ByteArray×(List (S103))×Int)
 | 0,_,_,_,_,_,_,_,_,_,_,_=>none
 | k + 1,x0,x1,x33,x34,x527000,x527001,x540000,x540001,x540002,x540003,x540004=>if x34 < x33 then ((wire_Reader_Count.f x527000 x527001 128).bind fun bt543=>((wire_Reader_Count.f bt543.2.1 bt543.2.2 128).bind fun bt546=>(if x540004.length < 8796093022208 then (label_Decode.l0 k x0 x1 x33 (wrap64 (x34 + 1)) bt546.2.1 bt546.2.2 x540000 x540001 x540002 x540003 (x540004++[(⟨bt543.1,bt546.1⟩:S103)])) else (none)))) else ((label_Valid.f x540000 x540001 x540002 x540003 x540004 x1).bind fun t552=>(if t552=true then ((label_Encode.f k x540000 x540001 x540002 x540003 x540004 x1).bind fun t553=>(if t553.toList=x0.toList then (some (x540000,x540001,x540002,x540003,x540004,0)) else (some (0,0,(⟨#[]⟩:ByteArray),(⟨#[]⟩:ByteArray),([]:List (S103)),11)))) else (some (0,0,(⟨#[]⟩:ByteArray),(⟨#[]⟩:ByteArray),([]:List (S103)),11))))
end
def label_Decode.f (k:Nat) (a0:ByteArray) (a1:Int):Option (Int×Int×ByteArray×ByteArray×(List (S103))×Int):=(label_tracksOK.f a1).bind fun t522=>(if t522=true then (label_Decode.j0 k a0 a1 ((a0.size:Int) != 1024)) else (label_Decode.j0 k a0 a1 true))
theorem label_Decode.mono_l:∀ k,(∀ y0 y1 y2,LeO (label_Decode.j0 k y0 y1 y2) (label_Decode.j0 (k + 1) y0 y1 y2))∧(∀ y0 y1 y2 y3 y4 y5 y6 y7 y8 y9 y10,LeO (label_Decode.l0 k y0 y1 y2 y3 y4 y5 y6 y7 y8 y9 y10) (label_Decode.l0 (k + 1) y0 y1 y2 y3 y4 y5 y6 y7 y8 y9 y10))
 | 0=>⟨fun _ _ _ r h=>by simp [label_Decode.j0] at h,fun _ _ _ _ _ _ _ _ _ _ _ r h=>by simp [label_Decode.l0] at h⟩
 | k + 1=>by
  obtain ⟨ih0,ih1⟩:=label_Decode.mono_l k
  refine ⟨?_,?_⟩
  ·intro y0 y1 y2
   unfold label_Decode.j0
   repeat' first
   | (with_reducible exact ih0 _ _ _)
   | (with_reducible exact ih1 _ _ _ _ _ _ _ _ _ _ _)
   | (with_reducible exact label_Encode.mono _ _ _ _ _ _ _)
   | (with_reducible exact LeO.refl _)
   | (with_reducible exact LeO.none _)
   | (with_reducible refine LeO.ite ?_ ?_)
   | (with_reducible refine LeO.bind ?_ (fun _=>?_))
   | exact ih0 _ _ _
   | exact ih1 _ _ _ _ _ _ _ _ _ _ _
   | exact label_Encode.mono _ _ _ _ _ _ _
   | exact LeO.none _
   | refine LeO.ite ?_ ?_
   | refine LeO.bind ?_ (fun _=>?_)
  intro y0 y1 y2 y3 y4 y5 y6 y7 y8 y9 y10
  unfold label_Decode.l0
  repeat' first
  | (with_reducible exact ih0 _ _ _)
  | (with_reducible exact ih1 _ _ _ _ _ _ _ _ _ _ _)
  | (with_reducible exact label_Encode.mono _ _ _ _ _ _ _)
  | (with_reducible exact LeO.refl _)
  | (with_reducible exact LeO.none _)
  | (with_reducible refine LeO.ite ?_ ?_)
  | (with_reducible refine LeO.bind ?_ (fun _=>?_))
  | exact ih0 _ _ _
  | exact ih1 _ _ _ _ _ _ _ _ _ _ _
  | exact label_Encode.mono _ _ _ _ _ _ _
  | exact LeO.none _
  | refine LeO.ite ?_ ?_
  | refine LeO.bind ?_ (fun _=>?_)
theorem label_Decode.mono:∀ a0 a1 k,LeO (label_Decode.f k a0 a1) (label_Decode.f (k + 1) a0 a1):=by
 intro a0 a1 k
 obtain ⟨ih0,ih1⟩:=label_Decode.mono_l k
 unfold label_Decode.f
 repeat' first
   | (with_reducible exact ih0 _ _ _)
   | (with_reducible exact ih1 _ _ _ _ _ _ _ _ _ _ _)
   | (with_reducible exact label_Encode.mono _ _ _ _ _ _ _)
   | (with_reducible exact LeO.refl _)
   | (with_reducible exact LeO.none _)
   | (with_reducible refine LeO.ite ?_ ?_)
   | (with_reducible refine LeO.bind ?_ (fun _=>?_))
   | exact ih0 _ _ _
   | exact ih1 _ _ _ _ _ _ _ _ _ _ _
   | exact label_Encode.mono _ _ _ _ _ _ _
   | exact LeO.none _
   | refine LeO.ite ?_ ?_
   | refine LeO.bind ?_ (fun _=>?_)
def label_Decode.T9:Bool×List (List Nat×List Nat):=(true,[([],[]),([0],[0]),([],[]),([2],[2]),([],[]),([4,3],[4]),([3,5],[3,5]),([6],[6]),([1,7,5],[1,7]),([0,1,2,3,4,5,6,7,8],[]),([9,8,8,0,1,2,3,4,5,6,7,8],[8,9])])
def label_Decode.B9:List Nat:=[0,1,0,4,0,28,60,124,255,511,1023]
theorem label_Decode.tab9 : rtab .any (opsOf Try.f58 9)=label_Decode.T9:=by kernel_rfl
theorem label_Decode.bits9 : waitsOk label_Decode.T9.2 label_Decode.B9=true:=by kernel_rfl
set_option maxHeartbeats 8000000 in
set_option maxRecDepth 100000 in
theorem label_Decode.calls (k:Nat) (a0:ByteArray) (a1:Int) (r1:Int) (r2:Int) (r3:ByteArray) (r4:ByteArray) (r5:List (S103)) (r6:Int) (w:World) (h : label_Decode.f k a0 a1=some (r1,r2,r3,r4,r5,r6)) :
  Calls Try.prog 58 #[.string a0,.int .i64 a1] w fun e w'=>∃ v4_:Value,e=.returned (.tuple #[.agg #[.int .i64 r1,.int .i64 r2,.string r3,.string r4,v4_],.int .i64 r6])∧Kd.R k103 103 w' w.heap.size (fun _=>True) v4_ r5∧Below w.heap.size w w':=by
 have hu55:=Try.underlying55
 have hu103:=Try.underlying103
 have HB:=Z0.mk (Below.refl w.heap.size w)
 have H:((label_tracksOK.f a1).bind fun t522=>(if t522=true then (label_Decode.j0 k a0 a1 ((a0.size:Int) != 1024)) else (label_Decode.j0 k a0 a1 true)))=some (r1,r2,r3,r4,r5,r6):=h
 clear h
 have HC3:=Z0.mk H
 clear H
 go_enter Try.func58,Try.ntmps58
 go_upto_region 1 with (first|((with_reducible refine gate_dst (N:=4) rfl ?_);(try (refine gate_guard (by rfl) ?_;dsimp only));refine box_event ?hg (N:=4) ?hd (cs:=#[.int .i64 0,.int .i64 0,.string (⟨#[]⟩:ByteArray),.string (⟨#[]⟩:ByteArray),.slice none 0 0]) (t:=55) ?hr ?_;(case hd=>rfl);(case hg=>rfl);(case hr=>first|(go_simp;done)|(go_simp;rfl));intro gb521 hg w4 hbox hb;have n0_:=Z0.mk (below_step (by repeat (first|(with_reducible first|exact HB.out|apply zbA|apply zbN|apply zb1)|exact HB.out)) hb);have n1_:=Z0.mk (hbox);have n2_:=Z0.mk ((by rw [hg];exact (below_size (by repeat (first|(with_reducible first|exact HB.out|apply zbA|apply zbN|apply zb1)|exact HB.out))) : w.heap.size≤gb521));have n3_:=Z0.mk ((by rw [hg];exact (below_size (by repeat (first|(with_reducible first|exact HB.out|apply zbA|apply zbN|apply zb1)|exact HB.out))) : w.heap.size≤gb521));clear HB;have HB:=n0_;have BK521:=n1_;have GW521:=n2_;have GE521:=n3_;clear n0_ n1_ n2_ n3_;clear hb hbox hg))
 (try simp only [Act.put,List.setIfInBounds_toArray,List.set_cons_zero,List.set_cons_succ])
 go_cut [15] (fun v15 wc=>∃ (kq:Nat) (x15_2:Bool),v15=.bool x15_2∧Z0 (label_Decode.j0 kq a0 a1 x15_2=some (r1,r2,r3,r4,r5,r6))∧Z0 (kq≤k)∧Z0 (wc.heap[gb521]?=some (.cells #[.int .i64 0,.int .i64 0,.string (⟨#[]⟩:ByteArray),.string (⟨#[]⟩:ByteArray),(.slice none 0 0)] 55 (0,0)))∧Z0 (Below w.heap.size w wc))
 case first =>
  have H:=HC3.out
  clear HC3
  replace H:=Option.bind_eq_some_iff.mp H
  obtain ⟨t522,A50,H⟩:=H
  replace H:(if t522=true then (label_Decode.j0 k a0 a1 ((a0.size:Int) != 1024)) else (label_Decode.j0 k a0 a1 true))=some (r1,r2,r3,r4,r5,r6):=H
  have A5:=Z0.mk A50
  clear A50
  by_cases c6 : t522=true
  ·subst c6
   have H1:(label_Decode.j0 k a0 a1 ((a0.size:Int) != 1024))=some (r1,r2,r3,r4,r5,r6):=by rw [if_pos rfl] at H;exact H
   clear H
   have H:=H1
   clear H1
   have H':=Z0.mk H
   clear H
   go_wp2_with (first|((with_reducible refine gate_callee (f:=100) rfl ?_);refine goesL_ (some 9) rfl rfl Try.func100 (by kernel_rfl) rfl #[.int .i64 a1] rfl (by (try simp only [List.map_toArray,List.map_cons,List.map_nil]);first|done|rfl|(simp only [List.length_drop,List.length_take];rfl)) ?_;(with_reducible refine (label_tracksOK.calls a1 true _ A5.out).mono ?_);rintro e w' ⟨rfl,⟨nd,rfl⟩⟩;refine ⟨_,rfl,?_⟩))
   go_meet
   case rel=>exact ⟨_,(((a0.size:Int) != 1024)),(by first|rfl|(simp;done)|(simp [*];done)),H',⟨by first|omega|exact Nat.le_refl _⟩,⟨by (with_reducible repeat (first|refine zkN ?_ _|refine zkD ?_|refine zkA ?_ _));exact BK521.out⟩,⟨by repeat (first|(with_reducible first|exact HB.out|apply zbA|apply zbN|apply zb1|refine zbS ?_ GE521.out)|exact HB.out)⟩⟩
  replace c6:=Bool.eq_false_iff.mpr c6
  subst c6
  have H1:(label_Decode.j0 k a0 a1 true)=some (r1,r2,r3,r4,r5,r6):=by rw [if_neg (show ¬ (false=true) by decide)] at H;exact H
  clear H
  have H:=H1
  clear H1
  have H':=Z0.mk H
  clear H
  go_wp2_with (first|((with_reducible refine gate_callee (f:=100) rfl ?_);refine goesL_ (some 9) rfl rfl Try.func100 (by kernel_rfl) rfl #[.int .i64 a1] rfl (by (try simp only [List.map_toArray,List.map_cons,List.map_nil]);first|done|rfl|(simp only [List.length_drop,List.length_take];rfl)) ?_;(with_reducible refine (label_tracksOK.calls a1 false _ A5.out).mono ?_);rintro e w' ⟨rfl,⟨nd,rfl⟩⟩;refine ⟨_,rfl,?_⟩))
  go_meet
  case rel=>exact ⟨_,(true),(by first|rfl|(simp;done)|(simp [*];done)),H',⟨by first|omega|exact Nat.le_refl _⟩,⟨by (with_reducible repeat (first|refine zkN ?_ _|refine zkD ?_|refine zkA ?_ _));exact BK521.out⟩,⟨by repeat (first|(with_reducible first|exact HB.out|apply zbA|apply zbN|apply zb1|refine zbS ?_ GE521.out)|exact HB.out)⟩⟩
 case rest =>
  clear HC3
  try clear c1
  try clear p2
  try clear c5
  try clear c6
  obtain ⟨kq,x15_2,rfl,HA,HJ2,BK521,HB⟩:=hcut
  cases kq with
  | zero=>exact absurd HA.out (by simp [label_Decode.j0])
  | succ kj2 =>
   have H:=HA.out
   clear HA
   simp only [label_Decode.j0] at H
   by_cases c7 : x15_2=true
   ·subst c7
    have H1:(some (0,0,(⟨#[]⟩:ByteArray),(⟨#[]⟩:ByteArray),([]:List (S103)),11))=some (r1,r2,r3,r4,r5,r6):=by rw [if_pos rfl] at H;exact H
    clear H
    have H:=H1
    clear H1
    simp only [Option.some.injEq,Prod.mk.injEq] at H
    obtain ⟨rfl,rfl,rfl,rfl,rfl,rfl⟩:=H
    have hcz8_0 : wc.cell? ⟨gb521,0,none⟩=some (.int .i64 0):=(zkC BK521.out 0).trans rfl
    have hcz8_1 : wc.cell? ⟨gb521,1,none⟩=some (.int .i64 0):=(zkC BK521.out 1).trans rfl
    have hcz8_2 : wc.cell? ⟨gb521,2,none⟩=some (.string (⟨#[]⟩:ByteArray)):=(zkC BK521.out 2).trans rfl
    have hcz8_3 : wc.cell? ⟨gb521,3,none⟩=some (.string (⟨#[]⟩:ByteArray)):=(zkC BK521.out 3).trans rfl
    have hcz8_4 : wc.cell? ⟨gb521,4,none⟩=some (.slice none 0 0):=(zkC BK521.out 4).trans rfl
    have hfz8_0:=zkF BK521.out 0
    have hfz8_1:=zkF BK521.out 1
    have hfz8_2:=zkF BK521.out 2
    have hfz8_3:=zkF BK521.out 3
    have hfz8_4:=zkF BK521.out 4
    go_wp2
    refine bodyPost_ret (results_ct rfl _ _ gb521 55 #[.int .i64 0,.int .i64 0,.string (⟨#[]⟩:ByteArray),.string (⟨#[]⟩:ByteArray),.slice none 0 0] (0,0) _ rfl (by (with_reducible repeat (first|refine zkN ?_ _|refine zkD ?_|refine zkA ?_ _));refine blk_put (cs:=#[.int .i64 0,.int .i64 0,.string (⟨#[]⟩:ByteArray),.string (⟨#[]⟩:ByteArray),.slice none 0 0]) ?_ 4 _ rfl;(with_reducible repeat (first|refine zkN ?_ _|refine zkD ?_|refine zkA ?_ _));refine blk_put (cs:=#[.int .i64 0,.int .i64 0,.string (⟨#[]⟩:ByteArray),.string (⟨#[]⟩:ByteArray),.slice none 0 0]) ?_ 3 _ rfl;(with_reducible repeat (first|refine zkN ?_ _|refine zkD ?_|refine zkA ?_ _));refine blk_put (cs:=#[.int .i64 0,.int .i64 0,.string (⟨#[]⟩:ByteArray),.string (⟨#[]⟩:ByteArray),.slice none 0 0]) ?_ 2 _ rfl;(with_reducible repeat (first|refine zkN ?_ _|refine zkD ?_|refine zkA ?_ _));refine blk_put (cs:=#[.int .i64 0,.int .i64 0,.string (⟨#[]⟩:ByteArray),.string (⟨#[]⟩:ByteArray),.slice none 0 0]) ?_ 1 _ rfl;(with_reducible repeat (first|refine zkN ?_ _|refine zkD ?_|refine zkA ?_ _));refine blk_put (cs:=#[.int .i64 0,.int .i64 0,.string (⟨#[]⟩:ByteArray),.string (⟨#[]⟩:ByteArray),.slice none 0 0]) ?_ 0 _ rfl;(with_reducible repeat (first|refine zkN ?_ _|refine zkD ?_|refine zkA ?_ _));exact BK521.out) Try.underlying55 rfl (by kernel_rfl)) rfl ?_
    exact ⟨_,by first|rfl|(simp [errW_none,errW_some] <;> rfl)|(simp [*,errW_none,errW_some] <;> rfl),by first|exact Kd.R_nil _ _ _ _ _|exact Kd.N_nil _ _ _ _ _|exact Kd.V_nil _ _ _ _ _|exact Kd.Q_nil _ _ _ _ _|exact Kd.S_nil _ _ _ _ _,by repeat (first|(with_reducible first|exact HB.out|apply zbA|apply zbN|apply zb1|refine zbS ?_ GE521.out)|exact HB.out)⟩
   replace c7:=Bool.eq_false_iff.mpr c7
   subst c7
   have H1:((label_fill.f (⟨#[]⟩:ByteArray)).bind fun t523=>(if a0.toList=t523.toList then (some (0,0,(⟨#[]⟩:ByteArray),(⟨#[]⟩:ByteArray),([]:List (S103)),0)) else ((wire_NewReader.f a0).bind fun bt524=>((wire_Reader_Count.f bt524.1 bt524.2 1099511627776).bind fun bt527=>((wire_Reader_Count.f bt527.2.1 bt527.2.2 1099511627776).bind fun bt530=>((wire_Reader_Text.f bt530.2.1 bt530.2.2 31).bind fun bt533=>((wire_Reader_Text.f bt533.2.1 bt533.2.2 400).bind fun bt536=>((wire_Reader_Count.f bt536.2.1 bt536.2.2 16).bind fun bt540=>(label_Decode.l0 kj2 a0 a1 bt540.1 0 bt540.2.1 bt540.2.2 bt527.1 bt530.1 bt533.1 bt536.1 ([]:List (S103)))))))))))=some (r1,r2,r3,r4,r5,r6):=by rw [if_neg (show ¬ (false=true) by decide)] at H;exact H
   clear H
   have H:=H1
   clear H1
   replace H:=Option.bind_eq_some_iff.mp H
   obtain ⟨t523,A90,H⟩:=H
   replace H:(if a0.toList=t523.toList then (some (0,0,(⟨#[]⟩:ByteArray),(⟨#[]⟩:ByteArray),([]:List (S103)),0)) else ((wire_NewReader.f a0).bind fun bt524=>((wire_Reader_Count.f bt524.1 bt524.2 1099511627776).bind fun bt527=>((wire_Reader_Count.f bt527.2.1 bt527.2.2 1099511627776).bind fun bt530=>((wire_Reader_Text.f bt530.2.1 bt530.2.2 31).bind fun bt533=>((wire_Reader_Text.f bt533.2.1 bt533.2.2 400).bind fun bt536=>((wire_Reader_Count.f bt536.2.1 bt536.2.2 16).bind fun bt540=>(label_Decode.l0 kj2 a0 a1 bt540.1 0 bt540.2.1 bt540.2.2 bt527.1 bt530.1 bt533.1 bt536.1 ([]:List (S103))))))))))=some (r1,r2,r3,r4,r5,r6):=H
   have A9:=Z0.mk A90
   clear A90
   by_cases c10 : a0.toList=t523.toList
   ·rw [if_pos c10] at H
    have c10b0:(a0.toList == t523.toList)=true:=beq_iff_eq.mpr c10
    have c10b1:(a0.toList != t523.toList)=false:=bne_eq_false_iff_eq.mpr c10
    clear c10
    simp only [Option.some.injEq,Prod.mk.injEq] at H
    obtain ⟨rfl,rfl,rfl,rfl,rfl,rfl⟩:=H
    go_wp2_with (first|((with_reducible refine gate_callee (f:=101) rfl ?_);refine goesL_ (some 18) rfl rfl Try.func101 (by kernel_rfl) rfl #[.string (⟨#[]⟩:ByteArray)] rfl (by (try simp only [List.map_toArray,List.map_cons,List.map_nil]);first|done|rfl|(simp only [List.length_drop,List.length_take];rfl)) ?_;(with_reducible refine (label_fill.calls (⟨#[]⟩:ByteArray) t523 _ A9.out).mono ?_);rintro e w11 ⟨rfl,hb⟩;refine ⟨_,rfl,?_⟩;have n0_:=Z0.mk (blk_below (g:=gb521) (o:=.cells #[.int .i64 0,.int .i64 0,.string (⟨#[]⟩:ByteArray),.string (⟨#[]⟩:ByteArray),.slice none 0 0] 55 (0,0)) (by (with_reducible repeat (first|refine zkN ?_ _|refine zkD ?_|refine zkA ?_ _));exact BK521.out) hb);have n1_:=Z0.mk (below_step (by repeat (first|(with_reducible first|exact HB.out|apply zbA|apply zbN|apply zb1|refine zbS ?_ GE521.out)|exact HB.out)) hb);clear BK521;clear HB;have BK521:=n0_;have HB:=n1_;clear n0_ n1_;(try clear hb);(try clear hb2);(try clear hk);(try clear hi);have hcz12_0 : w11.cell? ⟨gb521,0,none⟩=some (.int .i64 0):=(zkC BK521.out 0).trans rfl;have hcz12_1 : w11.cell? ⟨gb521,1,none⟩=some (.int .i64 0):=(zkC BK521.out 1).trans rfl;have hcz12_2 : w11.cell? ⟨gb521,2,none⟩=some (.string (⟨#[]⟩:ByteArray)):=(zkC BK521.out 2).trans rfl;have hcz12_3 : w11.cell? ⟨gb521,3,none⟩=some (.string (⟨#[]⟩:ByteArray)):=(zkC BK521.out 3).trans rfl;have hcz12_4 : w11.cell? ⟨gb521,4,none⟩=some (.slice none 0 0):=(zkC BK521.out 4).trans rfl;have hfz12_0:=zkF BK521.out 0;have hfz12_1:=zkF BK521.out 1;have hfz12_2:=zkF BK521.out 2;have hfz12_3:=zkF BK521.out 3;have hfz12_4:=zkF BK521.out 4))
    refine bodyPost_ret (results_ct rfl _ _ gb521 55 #[.int .i64 0,.int .i64 0,.string (⟨#[]⟩:ByteArray),.string (⟨#[]⟩:ByteArray),.slice none 0 0] (0,0) _ rfl (by (with_reducible repeat (first|refine zkN ?_ _|refine zkD ?_|refine zkA ?_ _));refine blk_put (cs:=#[.int .i64 0,.int .i64 0,.string (⟨#[]⟩:ByteArray),.string (⟨#[]⟩:ByteArray),.slice none 0 0]) ?_ 4 _ rfl;(with_reducible repeat (first|refine zkN ?_ _|refine zkD ?_|refine zkA ?_ _));refine blk_put (cs:=#[.int .i64 0,.int .i64 0,.string (⟨#[]⟩:ByteArray),.string (⟨#[]⟩:ByteArray),.slice none 0 0]) ?_ 3 _ rfl;(with_reducible repeat (first|refine zkN ?_ _|refine zkD ?_|refine zkA ?_ _));refine blk_put (cs:=#[.int .i64 0,.int .i64 0,.string (⟨#[]⟩:ByteArray),.string (⟨#[]⟩:ByteArray),.slice none 0 0]) ?_ 2 _ rfl;(with_reducible repeat (first|refine zkN ?_ _|refine zkD ?_|refine zkA ?_ _));refine blk_put (cs:=#[.int .i64 0,.int .i64 0,.string (⟨#[]⟩:ByteArray),.string (⟨#[]⟩:ByteArray),.slice none 0 0]) ?_ 1 _ rfl;(with_reducible repeat (first|refine zkN ?_ _|refine zkD ?_|refine zkA ?_ _));refine blk_put (cs:=#[.int .i64 0,.int .i64 0,.string (⟨#[]⟩:ByteArray),.string (⟨#[]⟩:ByteArray),.slice none 0 0]) ?_ 0 _ rfl;(with_reducible repeat (first|refine zkN ?_ _|refine zkD ?_|refine zkA ?_ _));exact BK521.out) Try.underlying55 rfl (by kernel_rfl)) rfl ?_
    exact ⟨_,by first|rfl|(simp [errW_none,errW_some] <;> rfl)|(simp [*,errW_none,errW_some] <;> rfl),by first|exact Kd.R_nil _ _ _ _ _|exact Kd.N_nil _ _ _ _ _|exact Kd.V_nil _ _ _ _ _|exact Kd.Q_nil _ _ _ _ _|exact Kd.S_nil _ _ _ _ _,by repeat (first|(with_reducible first|exact HB.out|apply zbA|apply zbN|apply zb1|refine zbS ?_ GE521.out)|exact HB.out)⟩
   rw [if_neg c10] at H
   have c10b0:(a0.toList == t523.toList)=false:=beq_eq_false_iff_ne.mpr c10
   have c10b1:(a0.toList != t523.toList)=true:=bne_iff_ne.mpr c10
   replace H:=Option.bind_eq_some_iff.mp H
   obtain ⟨⟨t524,t525⟩,A130,H⟩:=H
   replace H:((wire_Reader_Count.f t524 t525 1099511627776).bind fun bt527=>((wire_Reader_Count.f bt527.2.1 bt527.2.2 1099511627776).bind fun bt530=>((wire_Reader_Text.f bt530.2.1 bt530.2.2 31).bind fun bt533=>((wire_Reader_Text.f bt533.2.1 bt533.2.2 400).bind fun bt536=>((wire_Reader_Count.f bt536.2.1 bt536.2.2 16).bind fun bt540=>(label_Decode.l0 kj2 a0 a1 bt540.1 0 bt540.2.1 bt540.2.2 bt527.1 bt530.1 bt533.1 bt536.1 ([]:List (S103))))))))=some (r1,r2,r3,r4,r5,r6):=H
   have A13:=Z0.mk A130
   clear A130
   replace H:=Option.bind_eq_some_iff.mp H
   obtain ⟨⟨t527,t528,t529⟩,A140,H⟩:=H
   replace H:((wire_Reader_Count.f t528 t529 1099511627776).bind fun bt530=>((wire_Reader_Text.f bt530.2.1 bt530.2.2 31).bind fun bt533=>((wire_Reader_Text.f bt533.2.1 bt533.2.2 400).bind fun bt536=>((wire_Reader_Count.f bt536.2.1 bt536.2.2 16).bind fun bt540=>(label_Decode.l0 kj2 a0 a1 bt540.1 0 bt540.2.1 bt540.2.2 t527 bt530.1 bt533.1 bt536.1 ([]:List (S103)))))))=some (r1,r2,r3,r4,r5,r6):=H
   have A14:=Z0.mk A140
   clear A140
   replace H:=Option.bind_eq_some_iff.mp H
   obtain ⟨⟨t530,t531,t532⟩,A150,H⟩:=H
   replace H:((wire_Reader_Text.f t531 t532 31).bind fun bt533=>((wire_Reader_Text.f bt533.2.1 bt533.2.2 400).bind fun bt536=>((wire_Reader_Count.f bt536.2.1 bt536.2.2 16).bind fun bt540=>(label_Decode.l0 kj2 a0 a1 bt540.1 0 bt540.2.1 bt540.2.2 t527 t530 bt533.1 bt536.1 ([]:List (S103))))))=some (r1,r2,r3,r4,r5,r6):=H
   have A15:=Z0.mk A150
   clear A150
   replace H:=Option.bind_eq_some_iff.mp H
   obtain ⟨⟨t533,t534,t535⟩,A160,H⟩:=H
   replace H:((wire_Reader_Text.f t534 t535 400).bind fun bt536=>((wire_Reader_Count.f bt536.2.1 bt536.2.2 16).bind fun bt540=>(label_Decode.l0 kj2 a0 a1 bt540.1 0 bt540.2.1 bt540.2.2 t527 t530 t533 bt536.1 ([]:List (S103)))))=some (r1,r2,r3,r4,r5,r6):=H
   have A16:=Z0.mk A160
   clear A160
   replace H:=Option.bind_eq_some_iff.mp H
   obtain ⟨⟨t536,t537,t538⟩,A170,H⟩:=H
   replace H:((wire_Reader_Count.f t537 t538 16).bind fun bt540=>(label_Decode.l0 kj2 a0 a1 bt540.1 0 bt540.2.1 bt540.2.2 t527 t530 t533 t536 ([]:List (S103))))=some (r1,r2,r3,r4,r5,r6):=H
   have A17:=Z0.mk A170
   clear A170
   replace H:=Option.bind_eq_some_iff.mp H
   obtain ⟨⟨t540,t541,t542⟩,A180,H⟩:=H
   replace H:(label_Decode.l0 kj2 a0 a1 t540 0 t541 t542 t527 t530 t533 t536 ([]:List (S103)))=some (r1,r2,r3,r4,r5,r6):=H
   have A18:=Z0.mk A180
   clear A180
   have H':=Z0.mk H
   clear H
   go_wp2_with (first|((with_reducible refine gate_callee (f:=101) rfl ?_);refine goesL_ (some 18) rfl rfl Try.func101 (by kernel_rfl) rfl #[.string (⟨#[]⟩:ByteArray)] rfl (by (try simp only [List.map_toArray,List.map_cons,List.map_nil]);first|done|rfl|(simp only [List.length_drop,List.length_take];rfl)) ?_;(with_reducible refine (label_fill.calls (⟨#[]⟩:ByteArray) t523 _ A9.out).mono ?_);rintro e w19 ⟨rfl,hb⟩;refine ⟨_,rfl,?_⟩;have n0_:=Z0.mk (blk_below (g:=gb521) (o:=.cells #[.int .i64 0,.int .i64 0,.string (⟨#[]⟩:ByteArray),.string (⟨#[]⟩:ByteArray),.slice none 0 0] 55 (0,0)) (by (with_reducible repeat (first|refine zkN ?_ _|refine zkD ?_|refine zkA ?_ _));exact BK521.out) hb);have n1_:=Z0.mk (below_step (by repeat (first|(with_reducible first|exact HB.out|apply zbA|apply zbN|apply zb1|refine zbS ?_ GE521.out)|exact HB.out)) hb);clear BK521;clear HB;have BK521:=n0_;have HB:=n1_;clear n0_ n1_;(try clear hb);(try clear hb2);(try clear hk);(try clear hi))|((with_reducible refine gate_callee (f:=62) rfl ?_);refine goesL_ (some 22) rfl rfl Try.func62 (by kernel_rfl) rfl #[.string a0] rfl (by (try simp only [List.map_toArray,List.map_cons,List.map_nil]);first|done|rfl|(simp only [List.length_drop,List.length_take];rfl)) ?_;(with_reducible refine (wire_NewReader.calls a0 t524 t525 w _ ?side1 A13.out).mono ?_);(case side1=>repeat (first|(with_reducible first|exact HB.out|apply zbA|apply zbN|apply zb1|refine zbS ?_ GE521.out)|exact HB.out));rintro e w20 ⟨g526,rfl,hi,hb,hb2⟩;refine ⟨_,rfl,?_⟩;have n0_:=Z0.mk (blk_below (g:=gb521) (o:=.cells #[.int .i64 0,.int .i64 0,.string (⟨#[]⟩:ByteArray),.string (⟨#[]⟩:ByteArray),.slice none 0 0] 55 (0,0)) (by (with_reducible repeat (first|refine zkN ?_ _|refine zkD ?_|refine zkA ?_ _));exact BK521.out) hb2);have n1_:=Z0.mk (hb);have n2_:=Z0.mk (hi);have n3_:=Z0.mk (IsS110.ne_blk hi (blk_below (g:=gb521) (o:=.cells #[.int .i64 0,.int .i64 0,.string (⟨#[]⟩:ByteArray),.string (⟨#[]⟩:ByteArray),.slice none 0 0] 55 (0,0)) (by (with_reducible repeat (first|refine zkN ?_ _|refine zkD ?_|refine zkA ?_ _));exact BK521.out) hb2) (by decide));have n4_:=Z0.mk (Ne.symm (IsS110.ne_blk hi (blk_below (g:=gb521) (o:=.cells #[.int .i64 0,.int .i64 0,.string (⟨#[]⟩:ByteArray),.string (⟨#[]⟩:ByteArray),.slice none 0 0] 55 (0,0)) (by (with_reducible repeat (first|refine zkN ?_ _|refine zkD ?_|refine zkA ?_ _));exact BK521.out) hb2) (by decide)));clear BK521;clear HB;have BK521:=n0_;have HB:=n1_;have HI526:=n2_;have NB526_521:=n3_;have NB521_526:=n4_;clear n0_ n1_ n2_ n3_ n4_;(try clear hb);(try clear hb2);(try clear hk);(try clear hi))|((with_reducible refine gate_callee (f:=63) rfl ?_);refine goesL_ (some 24) rfl rfl Try.func63 (by kernel_rfl) rfl #[.pointer (some ⟨g526,0,none⟩),.int .i64 1099511627776] rfl (by (try simp only [List.map_toArray,List.map_cons,List.map_nil]);first|done|rfl|(simp only [List.length_drop,List.length_take];rfl)) ?_;(with_reducible refine (wire_Reader_Count.calls g526 t524 t525 1099511627776 t527 t528 t529 w _ ?side1 ?side2 A14.out).mono ?_);(case side1=>repeat (first|(with_reducible first|exact HI526.out|apply IsS110.alloc|apply IsS110.drewN|apply IsS110.drew|apply IsS110.set_0|apply IsS110.set_1|refine IsS110.far ?_ NB526_521.out _)|exact HI526.out));(case side2=>repeat (first|(with_reducible first|exact HB.out|apply zbA|apply zbN|apply zb1|refine zbS ?_ (IsS110.ge HI526.out)|refine zbS ?_ GE521.out)|exact HB.out));rintro e w21 ⟨rfl,hi,hb,hk⟩;refine ⟨_,rfl,?_⟩;have n0_:=Z0.mk (KeepBut.blk hk (g':=gb521) (o:=.cells #[.int .i64 0,.int .i64 0,.string (⟨#[]⟩:ByteArray),.string (⟨#[]⟩:ByteArray),.slice none 0 0] 55 (0,0)) (by (with_reducible repeat (first|refine zkN ?_ _|refine zkD ?_|refine zkA ?_ _));exact BK521.out) NB521_526.out (by simp));have n1_:=Z0.mk (hb);have n2_:=Z0.mk (hi);clear BK521;clear HB;clear HI526;have BK521:=n0_;have HB:=n1_;have HI526:=n2_;clear n0_ n1_ n2_;(try clear hb);(try clear hb2);(try clear hk);(try clear hi))|((with_reducible refine gate_callee (f:=63) rfl ?_);refine goesL_ (some 26) rfl rfl Try.func63 (by kernel_rfl) rfl #[.pointer (some ⟨g526,0,none⟩),.int .i64 1099511627776] rfl (by (try simp only [List.map_toArray,List.map_cons,List.map_nil]);first|done|rfl|(simp only [List.length_drop,List.length_take];rfl)) ?_;(with_reducible refine (wire_Reader_Count.calls g526 t528 t529 1099511627776 t530 t531 t532 w _ ?side1 ?side2 A15.out).mono ?_);(case side1=>repeat (first|(with_reducible first|exact HI526.out|apply IsS110.alloc|apply IsS110.drewN|apply IsS110.drew|apply IsS110.set_0|apply IsS110.set_1|refine IsS110.far ?_ NB526_521.out _)|exact HI526.out));(case side2=>repeat (first|(with_reducible first|exact HB.out|apply zbA|apply zbN|apply zb1|refine zbS ?_ (IsS110.ge HI526.out)|refine zbS ?_ GE521.out)|exact HB.out));rintro e w22 ⟨rfl,hi,hb,hk⟩;refine ⟨_,rfl,?_⟩;have n0_:=Z0.mk (KeepBut.blk hk (g':=gb521) (o:=.cells #[.int .i64 0,.int .i64 0,.string (⟨#[]⟩:ByteArray),.string (⟨#[]⟩:ByteArray),.slice none 0 0] 55 (0,0)) (by (with_reducible repeat (first|refine zkN ?_ _|refine zkD ?_|refine zkA ?_ _));exact BK521.out) NB521_526.out (by simp));have n1_:=Z0.mk (hb);have n2_:=Z0.mk (hi);clear BK521;clear HB;clear HI526;have BK521:=n0_;have HB:=n1_;have HI526:=n2_;clear n0_ n1_ n2_;(try clear hb);(try clear hb2);(try clear hk);(try clear hi))|((with_reducible refine gate_callee (f:=64) rfl ?_);refine goesL_ (some 28) rfl rfl Try.func64 (by kernel_rfl) rfl #[.pointer (some ⟨g526,0,none⟩),.int .i64 31] rfl (by (try simp only [List.map_toArray,List.map_cons,List.map_nil]);first|done|rfl|(simp only [List.length_drop,List.length_take];rfl)) ?_;(with_reducible refine (wire_Reader_Text.calls g526 t531 t532 31 t533 t534 t535 w _ ?side1 ?side2 A16.out).mono ?_);(case side1=>repeat (first|(with_reducible first|exact HI526.out|apply IsS110.alloc|apply IsS110.drewN|apply IsS110.drew|apply IsS110.set_0|apply IsS110.set_1|refine IsS110.far ?_ NB526_521.out _)|exact HI526.out));(case side2=>repeat (first|(with_reducible first|exact HB.out|apply zbA|apply zbN|apply zb1|refine zbS ?_ (IsS110.ge HI526.out)|refine zbS ?_ GE521.out)|exact HB.out));rintro e w23 ⟨rfl,hi,hb,hk⟩;refine ⟨_,rfl,?_⟩;have n0_:=Z0.mk (KeepBut.blk hk (g':=gb521) (o:=.cells #[.int .i64 0,.int .i64 0,.string (⟨#[]⟩:ByteArray),.string (⟨#[]⟩:ByteArray),.slice none 0 0] 55 (0,0)) (by (with_reducible repeat (first|refine zkN ?_ _|refine zkD ?_|refine zkA ?_ _));exact BK521.out) NB521_526.out (by simp));have n1_:=Z0.mk (hb);have n2_:=Z0.mk (hi);clear BK521;clear HB;clear HI526;have BK521:=n0_;have HB:=n1_;have HI526:=n2_;clear n0_ n1_ n2_;(try clear hb);(try clear hb2);(try clear hk);(try clear hi))|((with_reducible refine gate_callee (f:=64) rfl ?_);refine goesL_ (some 30) rfl rfl Try.func64 (by kernel_rfl) rfl #[.pointer (some ⟨g526,0,none⟩),.int .i64 400] rfl (by (try simp only [List.map_toArray,List.map_cons,List.map_nil]);first|done|rfl|(simp only [List.length_drop,List.length_take];rfl)) ?_;(with_reducible refine (wire_Reader_Text.calls g526 t534 t535 400 t536 t537 t538 w _ ?side1 ?side2 A17.out).mono ?_);(case side1=>repeat (first|(with_reducible first|exact HI526.out|apply IsS110.alloc|apply IsS110.drewN|apply IsS110.drew|apply IsS110.set_0|apply IsS110.set_1|refine IsS110.far ?_ NB526_521.out _)|exact HI526.out));(case side2=>repeat (first|(with_reducible first|exact HB.out|apply zbA|apply zbN|apply zb1|refine zbS ?_ (IsS110.ge HI526.out)|refine zbS ?_ GE521.out)|exact HB.out));rintro e w24 ⟨rfl,hi,hb,hk⟩;refine ⟨_,rfl,?_⟩;have n0_:=Z0.mk (KeepBut.blk hk (g':=gb521) (o:=.cells #[.int .i64 0,.int .i64 0,.string (⟨#[]⟩:ByteArray),.string (⟨#[]⟩:ByteArray),.slice none 0 0] 55 (0,0)) (by (with_reducible repeat (first|refine zkN ?_ _|refine zkD ?_|refine zkA ?_ _));exact BK521.out) NB521_526.out (by simp));have n1_:=Z0.mk (hb);have n2_:=Z0.mk (hi);clear BK521;clear HB;clear HI526;have BK521:=n0_;have HB:=n1_;have HI526:=n2_;clear n0_ n1_ n2_;(try clear hb);(try clear hb2);(try clear hk);(try clear hi))|((with_reducible refine gate_dst (N:=7) rfl ?_);(try (refine gate_guard (by rfl) ?_;dsimp only));refine box_event ?hg (N:=7) ?hd (cs:=#[.int .i64 0,.int .i64 0,.string (⟨#[]⟩:ByteArray),.string (⟨#[]⟩:ByteArray),.slice none 0 0]) (t:=55) ?hr ?_;(case hd=>rfl);(case hg=>rfl);(case hr=>first|(go_simp;done)|(go_simp;rfl));intro gb539 hg w25 hbox hb;have n0_:=Z0.mk (blk_below (g:=gb521) (o:=.cells #[.int .i64 0,.int .i64 0,.string (⟨#[]⟩:ByteArray),.string (⟨#[]⟩:ByteArray),.slice none 0 0] 55 (0,0)) (by (with_reducible repeat (first|refine zkN ?_ _|refine zkD ?_|refine zkA ?_ _));exact BK521.out) hb);have n1_:=Z0.mk (IsS110.below (by repeat (first|(with_reducible first|exact HI526.out|apply IsS110.alloc|apply IsS110.drewN|apply IsS110.drew|apply IsS110.set_0|apply IsS110.set_1|refine IsS110.far ?_ NB526_521.out _)|exact HI526.out)) hb);have n2_:=Z0.mk (below_step (by repeat (first|(with_reducible first|exact HB.out|apply zbA|apply zbN|apply zb1|refine zbS ?_ (IsS110.ge HI526.out)|refine zbS ?_ GE521.out)|exact HB.out)) hb);have n3_:=Z0.mk (hbox);have n4_:=Z0.mk ((by rw [hg];exact (below_size (by repeat (first|(with_reducible first|exact HB.out|apply zbA|apply zbN|apply zb1|refine zbS ?_ (IsS110.ge HI526.out)|refine zbS ?_ GE521.out)|exact HB.out))) : w.heap.size≤gb539));have n5_:=Z0.mk ((by rw [hg];exact (below_size (by repeat (first|(with_reducible first|exact HB.out|apply zbA|apply zbN|apply zb1|refine zbS ?_ (IsS110.ge HI526.out)|refine zbS ?_ GE521.out)|exact HB.out))) : w.heap.size≤gb539));have n6_:=Z0.mk ((by rw [hg];exact Nat.ne_of_lt (blk_lt (g:=gb521) (o:=.cells #[.int .i64 0,.int .i64 0,.string (⟨#[]⟩:ByteArray),.string (⟨#[]⟩:ByteArray),.slice none 0 0] 55 (0,0)) (by (with_reducible repeat (first|refine zkN ?_ _|refine zkD ?_|refine zkA ?_ _));exact BK521.out)) : gb521 ≠ gb539));have n7_:=Z0.mk ((by rw [hg];exact Nat.ne_of_gt (blk_lt (g:=gb521) (o:=.cells #[.int .i64 0,.int .i64 0,.string (⟨#[]⟩:ByteArray),.string (⟨#[]⟩:ByteArray),.slice none 0 0] 55 (0,0)) (by (with_reducible repeat (first|refine zkN ?_ _|refine zkD ?_|refine zkA ?_ _));exact BK521.out)) : gb539 ≠ gb521));have n8_:=Z0.mk ((by rw [hg];exact Nat.ne_of_lt (IsS110.lt (show IsS110 w _ g526 t537 t538 from by repeat (first|(with_reducible first|exact HI526.out|apply IsS110.alloc|apply IsS110.drewN|apply IsS110.drew|apply IsS110.set_0|apply IsS110.set_1|refine IsS110.far ?_ NB526_521.out _)|exact HI526.out))) : g526 ≠ gb539));have n9_:=Z0.mk ((by rw [hg];exact Nat.ne_of_gt (IsS110.lt (show IsS110 w _ g526 t537 t538 from by repeat (first|(with_reducible first|exact HI526.out|apply IsS110.alloc|apply IsS110.drewN|apply IsS110.drew|apply IsS110.set_0|apply IsS110.set_1|refine IsS110.far ?_ NB526_521.out _)|exact HI526.out))) : gb539 ≠ g526));clear BK521;clear HI526;clear HB;have BK521:=n0_;have HI526:=n1_;have HB:=n2_;have BK539:=n3_;have GW539:=n4_;have GE539:=n5_;have NB521_539:=n6_;have NB539_521:=n7_;have NB526_539:=n8_;have NB539_526:=n9_;clear n0_ n1_ n2_ n3_ n4_ n5_ n6_ n7_ n8_ n9_;clear hb hbox hg;have hnb26:=NB539_521.out;have hnc26:=NB521_539.out;have hnb27:=NB539_526.out;have hnc27:=NB526_539.out;have hcz28_0 : w25.cell? ⟨gb539,0,none⟩=some (.int .i64 0):=(zkC BK539.out 0).trans rfl;have hcz28_1 : w25.cell? ⟨gb539,1,none⟩=some (.int .i64 0):=(zkC BK539.out 1).trans rfl;have hcz28_2 : w25.cell? ⟨gb539,2,none⟩=some (.string (⟨#[]⟩:ByteArray)):=(zkC BK539.out 2).trans rfl;have hcz28_3 : w25.cell? ⟨gb539,3,none⟩=some (.string (⟨#[]⟩:ByteArray)):=(zkC BK539.out 3).trans rfl;have hcz28_4 : w25.cell? ⟨gb539,4,none⟩=some (.slice none 0 0):=(zkC BK539.out 4).trans rfl;have hfz28_0:=zkF BK539.out 0;have hfz28_1:=zkF BK539.out 1;have hfz28_2:=zkF BK539.out 2;have hfz28_3:=zkF BK539.out 3;have hfz28_4:=zkF BK539.out 4)|((with_reducible refine gate_callee (f:=63) rfl ?_);refine goesL_ (some 33) rfl rfl Try.func63 (by kernel_rfl) rfl #[.pointer (some ⟨g526,0,none⟩),.int .i64 16] rfl (by (try simp only [List.map_toArray,List.map_cons,List.map_nil]);first|done|rfl|(simp only [List.length_drop,List.length_take];rfl)) ?_;(with_reducible refine (wire_Reader_Count.calls g526 t537 t538 16 t540 t541 t542 w _ ?side1 ?side2 A18.out).mono ?_);(case side1=>repeat (first|(with_reducible first|exact HI526.out|apply IsS110.alloc|apply IsS110.drewN|apply IsS110.drew|apply IsS110.set_0|apply IsS110.set_1|refine IsS110.far ?_ NB526_521.out _|refine IsS110.far ?_ NB526_539.out _)|exact HI526.out));(case side2=>repeat (first|(with_reducible first|exact HB.out|apply zbA|apply zbN|apply zb1|refine zbS ?_ (IsS110.ge HI526.out)|refine zbS ?_ GE521.out|refine zbS ?_ GE539.out)|exact HB.out));rintro e w29 ⟨rfl,hi,hb,hk⟩;refine ⟨_,rfl,?_⟩;have n0_:=Z0.mk (KeepBut.blk hk (g':=gb521) (o:=.cells #[.int .i64 0,.int .i64 0,.string (⟨#[]⟩:ByteArray),.string (⟨#[]⟩:ByteArray),.slice none 0 0] 55 (0,0)) (by (with_reducible repeat (first|refine zkN ?_ _|refine zkD ?_|refine zkA ?_ _));refine blk_far ?_ NB521_539.out _;(with_reducible repeat (first|refine zkN ?_ _|refine zkD ?_|refine zkA ?_ _));refine blk_far ?_ NB521_539.out _;(with_reducible repeat (first|refine zkN ?_ _|refine zkD ?_|refine zkA ?_ _));refine blk_far ?_ NB521_539.out _;(with_reducible repeat (first|refine zkN ?_ _|refine zkD ?_|refine zkA ?_ _));refine blk_far ?_ NB521_539.out _;(with_reducible repeat (first|refine zkN ?_ _|refine zkD ?_|refine zkA ?_ _));refine blk_far ?_ NB521_539.out _;(with_reducible repeat (first|refine zkN ?_ _|refine zkD ?_|refine zkA ?_ _));exact BK521.out) NB521_526.out (by simp));have n1_:=Z0.mk (KeepBut.blk hk (g':=gb539) (o:=.cells #[.int .i64 t527,.int .i64 t530,.string t533,.string t536,.slice none 0 0] 55 (0,0)) (by (with_reducible repeat (first|refine zkN ?_ _|refine zkD ?_|refine zkA ?_ _));refine blk_put (cs:=#[.int .i64 t527,.int .i64 t530,.string t533,.string t536,.slice none 0 0]) ?_ 4 _ rfl;(with_reducible repeat (first|refine zkN ?_ _|refine zkD ?_|refine zkA ?_ _));refine blk_put (cs:=#[.int .i64 t527,.int .i64 t530,.string t533,.string (⟨#[]⟩:ByteArray),.slice none 0 0]) ?_ 3 _ rfl;(with_reducible repeat (first|refine zkN ?_ _|refine zkD ?_|refine zkA ?_ _));refine blk_put (cs:=#[.int .i64 t527,.int .i64 t530,.string (⟨#[]⟩:ByteArray),.string (⟨#[]⟩:ByteArray),.slice none 0 0]) ?_ 2 _ rfl;(with_reducible repeat (first|refine zkN ?_ _|refine zkD ?_|refine zkA ?_ _));refine blk_put (cs:=#[.int .i64 t527,.int .i64 0,.string (⟨#[]⟩:ByteArray),.string (⟨#[]⟩:ByteArray),.slice none 0 0]) ?_ 1 _ rfl;(with_reducible repeat (first|refine zkN ?_ _|refine zkD ?_|refine zkA ?_ _));refine blk_put (cs:=#[.int .i64 0,.int .i64 0,.string (⟨#[]⟩:ByteArray),.string (⟨#[]⟩:ByteArray),.slice none 0 0]) ?_ 0 _ rfl;(with_reducible repeat (first|refine zkN ?_ _|refine zkD ?_|refine zkA ?_ _));exact BK539.out) NB539_526.out (by simp));have n2_:=Z0.mk (hb);have n3_:=Z0.mk (hi);clear BK521;clear BK539;clear HB;clear HI526;have BK521:=n0_;have BK539:=n1_;have HB:=n2_;have HI526:=n3_;clear n0_ n1_ n2_ n3_;(try clear hb);(try clear hb2);(try clear hk);(try clear hi)))
   go_loopg [34] kj2 (fun kq v34 w'=>∃ (x34_2:Int) (x527000_2:ByteArray) (x527001_2:Int) (x540004_2:List (S103)) (u540004:Value),v34=.int .i64 x34_2∧Z0 (label_Decode.l0 kq a0 a1 t540 x34_2 x527000_2 x527001_2 t527 t530 t533 t536 x540004_2=some (r1,r2,r3,r4,r5,r6))∧Z0 (kq≤kj2)∧Z0 (Kd.R k103 103 w' w.heap.size (fun _=>True) u540004 x540004_2)∧Z0 (w'.heap[gb521]?=some (.cells #[.int .i64 0,.int .i64 0,.string (⟨#[]⟩:ByteArray),.string (⟨#[]⟩:ByteArray),(.slice none 0 0)] 55 (0,0)))∧Z0 (w'.heap[gb539]?=some (.cells #[.int .i64 t527,.int .i64 t530,.string t533,.string t536,u540004] 55 (0,0)))∧Z0 (IsS110 w w' g526 x527000_2 x527001_2)∧Z0 (Below w.heap.size w w'))
   case atStart=>exact ⟨(0),(t541),(t542),(([]:List (S103))),(.slice none 0 0),(by first|rfl|(simp;done)|(simp [*];done)),H',⟨Nat.le_refl _⟩,⟨by first|exact Kd.R_nil _ _ _ _ _|exact Kd.N_nil _ _ _ _ _|exact Kd.V_nil _ _ _ _ _|exact Kd.Q_nil _ _ _ _ _|exact Kd.S_nil _ _ _ _ _⟩,⟨by (with_reducible repeat (first|refine zkN ?_ _|refine zkD ?_|refine zkA ?_ _));exact BK521.out⟩,⟨by (with_reducible repeat (first|refine zkN ?_ _|refine zkD ?_|refine zkA ?_ _));exact BK539.out⟩,⟨by repeat (first|(with_reducible first|exact HI526.out|apply IsS110.alloc|apply IsS110.drewN|apply IsS110.drew|apply IsS110.set_0|apply IsS110.set_1|refine IsS110.far ?_ NB526_521.out _|refine IsS110.far ?_ NB526_539.out _)|exact HI526.out)⟩,⟨by repeat (first|(with_reducible first|exact HB.out|apply zbA|apply zbN|apply zb1|refine zbS ?_ (IsS110.ge HI526.out)|refine zbS ?_ GE521.out|refine zbS ?_ GE539.out)|exact HB.out)⟩⟩
   case round =>
    clear H'
    try clear c1
    try clear c2
    try clear p2
    try clear c5
    try clear c6
    try clear c7
    try clear c10
    try clear c10b0
    try clear c10b1
    try clear c26
    try clear c27
    try clear hcz12_0
    try clear hcz12_1
    try clear hcz12_2
    try clear hcz12_3
    try clear hcz12_4
    try clear hcz28_0
    try clear hcz28_1
    try clear hcz28_2
    try clear hcz28_3
    try clear hcz28_4
    try clear hcz8_0
    try clear hcz8_1
    try clear hcz8_2
    try clear hcz8_3
    try clear hcz8_4
    try clear hfz12_0
    try clear hfz12_1
    try clear hfz12_2
    try clear hfz12_3
    try clear hfz12_4
    try clear hfz28_0
    try clear hfz28_1
    try clear hfz28_2
    try clear hfz28_3
    try clear hfz28_4
    try clear hfz8_0
    try clear hfz8_1
    try clear hfz8_2
    try clear hfz8_3
    try clear hfz8_4
    try clear p2
    obtain ⟨x34_2,x527000_2,x527001_2,x540004_2,u540004,rfl,HA,HK2,HO_540004,BK521,BK539,HI526,HB⟩:=hrel
    cases gk with
    | zero=>exact absurd HA.out (by simp [label_Decode.l0])
    | succ k2 =>
     have H:=HA.out
     clear HA
     simp only [label_Decode.l0] at H
     by_cases c30 : x34_2 < t540
     ·rw [if_pos c30] at H
      have c30b0 : decide (x34_2 < t540)=true:=decide_eq_true c30
      clear c30
      replace H:=Option.bind_eq_some_iff.mp H
      obtain ⟨⟨t543,t544,t545⟩,A310,H⟩:=H
      replace H:((wire_Reader_Count.f t544 t545 128).bind fun bt546=>(if x540004_2.length < 8796093022208 then (label_Decode.l0 k2 a0 a1 t540 (wrap64 (x34_2 + 1)) bt546.2.1 bt546.2.2 t527 t530 t533 t536 (x540004_2++[(⟨t543,bt546.1⟩:S103)])) else (none)))=some (r1,r2,r3,r4,r5,r6):=H
      have A31:=Z0.mk A310
      clear A310
      replace H:=Option.bind_eq_some_iff.mp H
      obtain ⟨⟨t546,t547,t548⟩,A320,H⟩:=H
      replace H:(if x540004_2.length < 8796093022208 then (label_Decode.l0 k2 a0 a1 t540 (wrap64 (x34_2 + 1)) t547 t548 t527 t530 t533 t536 (x540004_2++[(⟨t543,t546⟩:S103)])) else (none))=some (r1,r2,r3,r4,r5,r6):=H
      have A32:=Z0.mk A320
      clear A320
      by_cases c33 : x540004_2.length < 8796093022208
      ·rw [if_pos c33] at H
       have LMc33:=Z0.mk c33
       clear c33
       obtain ⟨y549,hy549⟩:∃ y_:List (S103),y_=(x540004_2++[(⟨t543,t546⟩:S103)]):=⟨_,rfl⟩
       replace H:(label_Decode.l0 k2 a0 a1 t540 (wrap64 (x34_2 + 1)) t547 t548 t527 t530 t533 t536 y549)=some (r1,r2,r3,r4,r5,r6):=by first|(rw [hy549];with_reducible exact H)|(have H2_:=(Option.bind_some _ _).symm.trans H;rw [hy549];with_reducible exact H2_)|(have H2_:=(Option.bind_some _ _).symm.trans H;with_reducible exact H2_)|with_reducible exact H|(rw [hy549];exact H)|exact H
       have Ny549:=Z0.mk hy549
       clear hy549
       have H':=Z0.mk H
       clear H
       try go_wp2
       have n0_:=Z0.mk (Kd.R_drew HO_540004.out)
       have n1_:=Z0.mk (zkD BK521.out)
       have n2_:=Z0.mk (zkD BK539.out)
       have n3_:=Z0.mk (IsS110.drew HI526.out)
       have n4_:=Z0.mk (zb1 HB.out)
       clear HO_540004
       clear BK521
       clear BK539
       clear HI526
       clear HB
       have HO_540004:=n0_
       have BK521:=n1_
       have BK539:=n2_
       have HI526:=n3_
       have HB:=n4_
       clear n0_ n1_ n2_ n3_ n4_
       refine start_ (n:=11) (S:=fun w'=>w'.cell? ⟨gb539,0,none⟩=some (.int .i64 t527)∧w'.cell? ⟨gb539,1,none⟩=some (.int .i64 t530)∧w'.cell? ⟨gb539,2,none⟩=some (.string t533)∧w'.cell? ⟨gb539,3,none⟩=some (.string t536)∧w'.cell? ⟨gb539,4,none⟩=some (u540004)) (ds:=[10]) #[false,false,false,false,false,false,false,false,false,false,false] (by kernel_rfl) rfl rfl ⟨(zkC BK539.out 0).trans rfl,(zkC BK539.out 1).trans rfl,(zkC BK539.out 2).trans rfl,(zkC BK539.out 3).trans rfl,(zkC BK539.out 4).trans rfl⟩ (fun hHeld=>?_);refine with_tabW label_Decode.tab9 label_Decode.bits9 (fun HT_ HW_=>?_)
       generalize wr.drew=w34 at HO_540004 BK521 BK539 HI526 HB hHeld ⊢
       refine pure_ (i:=0) (N:=some 36) (v:=?_) (a':=?_) #[true,false,false,false,false,false,false,false,false,false,false] rfl rfl (any_of HT_.out (by kernel_rfl)) (fun _ _ _ h=>h) (Or.inl ⟨by rfl,?_⟩) ?_ ?_
       rotate_left
       ·intro w'
        go_simp
        with_reducible rfl
       rotate_left
       ·simp only [Act.put,List.setIfInBounds_toArray,List.set_cons_zero,List.set_cons_succ,i64_w,i32_w]
        rfl
       refine pure_ (i:=2) (N:=some 38) (v:=?_) (a':=?_) #[true,false,true,false,false,false,false,false,false,false,false] rfl rfl (any_of HT_.out (by kernel_rfl)) (fun _ _ _ h=>h) (Or.inl ⟨by rfl,?_⟩) ?_ ?_
       rotate_left
       ·intro w'
        go_simp
        with_reducible rfl
       rotate_left
       ·simp only [Act.put,List.setIfInBounds_toArray,List.set_cons_zero,List.set_cons_succ,i64_w,i32_w]
        rfl
       refine pure_ (i:=4) (N:=some 40) (v:=?_) (a':=?_) #[true,false,true,false,true,false,false,false,false,false,false] rfl rfl (any_of HT_.out (by kernel_rfl)) (fun _ _ _ h=>h) (Or.inl ⟨by rfl,?_⟩) ?_ ?_
       rotate_left
       ·intro w'
        go_simp
        with_reducible rfl
       rotate_left
       ·simp only [Act.put,List.setIfInBounds_toArray,List.set_cons_zero,List.set_cons_succ,i64_w,i32_w]
        rfl
       refine take_ (i:=1) (N:=some 37) (v:=?_) (a':=?_) #[true,true,true,false,true,false,false,false,false,false,false] rfl rfl (take_ofW HT_.out HW_.out (by kernel_rfl)) (fun _ _ _ h=>h) (Or.inl ⟨by rfl,?_⟩) hHeld ?_ ?_
       rotate_left
       ·rintro w' ⟨s0,s1,s2,s3,s4⟩
        go_simp
        with_reducible rfl
       rotate_left
       ·simp only [Act.put,List.setIfInBounds_toArray,List.set_cons_zero,List.set_cons_succ,i64_w,i32_w]
        rfl
       refine one_ (i:=3) (N:=some 39) #[true,true,true,true,true,false,false,false,false,false,false] rfl rfl (one_of HT_.out (by kernel_rfl)) (by decide) (fun K hK=>?_)
       refine goes_ Try.func63 (by kernel_rfl) rfl #[.pointer (some ⟨g526,0,none⟩),.int .i64 128] (by rfl) rfl rfl (by (try simp only [List.map_toArray,List.map_cons,List.map_nil]);first|done|rfl|(simp only [List.length_drop,List.length_take];rfl)) ?_
       with_reducible refine (wire_Reader_Count.calls g526 x527000_2 x527001_2 128 t543 t544 t545 w _ ?side1 ?side2 A31.out).mono ?_
       (case side1=>repeat (first|(with_reducible first|exact HI526.out|apply IsS110.alloc|apply IsS110.drewN|apply IsS110.drew|apply IsS110.set_0|apply IsS110.set_1|refine IsS110.far ?_ NB526_521.out _|refine IsS110.far ?_ NB526_539.out _)|exact HI526.out))
       (case side2=>repeat (first|(with_reducible first|exact HB.out|apply zbA|apply zbN|apply zb1|refine zbS ?_ (IsS110.ge HI526.out)|refine zbS ?_ GE521.out|refine zbS ?_ GE539.out)|exact HB.out))
       rintro e w35 ⟨rfl,hi,hb,hk⟩
       refine ⟨_,rfl,?_⟩
       have n0_:=Z0.mk (Kd.R_mono (Kd.R_keep (IsS110.apart (show IsS110 w _ g526 x527000_2 x527001_2 from by repeat (first|(with_reducible first|exact HI526.out|apply IsS110.alloc|apply IsS110.drewN|apply IsS110.drew|apply IsS110.set_0|apply IsS110.set_1|refine IsS110.far ?_ NB526_521.out _|refine IsS110.far ?_ NB526_539.out _)|exact HI526.out)) (by (with_reducible repeat (first|apply Kd.R_alloc|apply Kd.R_drewN|apply Kd.R_drew));exact HO_540004.out) (by decide)) hk (fun _ h=>h.2)) (fun _ h=>h.1))
       have n1_:=Z0.mk (KeepBut.blk hk (g':=gb521) (o:=.cells #[.int .i64 0,.int .i64 0,.string (⟨#[]⟩:ByteArray),.string (⟨#[]⟩:ByteArray),.slice none 0 0] 55 (0,0)) (by (with_reducible repeat (first|refine zkN ?_ _|refine zkD ?_|refine zkA ?_ _));exact BK521.out) NB521_526.out (by simp))
       have n2_:=Z0.mk (KeepBut.blk hk (g':=gb539) (o:=.cells #[.int .i64 t527,.int .i64 t530,.string t533,.string t536,u540004] 55 (0,0)) (by (with_reducible repeat (first|refine zkN ?_ _|refine zkD ?_|refine zkA ?_ _));exact BK539.out) NB539_526.out (by simp))
       have n3_:=Z0.mk (hb)
       have n4_:=Z0.mk (hi)
       clear HO_540004
       clear BK521
       clear BK539
       clear HB
       clear HI526
       have HO_540004:=n0_
       have BK521:=n1_
       have BK539:=n2_
       have HB:=n3_
       have HI526:=n4_
       clear n0_ n1_ n2_ n3_ n4_
       (try clear hb)
       (try clear hb2)
       (try clear hk)
       (try clear hi)
       refine hK.out _ _ ⟨(zkC BK539.out 0).trans rfl,(zkC BK539.out 1).trans rfl,(zkC BK539.out 2).trans rfl,(zkC BK539.out 3).trans rfl,(zkC BK539.out 4).trans rfl⟩ (fun hHeld=>?_)
       clear hK K
       refine norm_ (a':=?_) ?_ ?_
       rotate_left
       ·show Act.put _ (some 39) _=_
        simp only [Act.put,List.setIfInBounds_toArray,List.set_cons_zero,List.set_cons_succ,i64_w,i32_w]
        rfl
       refine one_ (i:=5) (N:=some 41) #[true,true,true,true,true,true,false,false,false,false,false] rfl rfl (one_of HT_.out (by kernel_rfl)) (by decide) (fun K hK=>?_)
       refine goes_ Try.func63 (by kernel_rfl) rfl #[.pointer (some ⟨g526,0,none⟩),.int .i64 128] (by rfl) rfl rfl (by (try simp only [List.map_toArray,List.map_cons,List.map_nil]);first|done|rfl|(simp only [List.length_drop,List.length_take];rfl)) ?_
       with_reducible refine (wire_Reader_Count.calls g526 t544 t545 128 t546 t547 t548 w _ ?side1 ?side2 A32.out).mono ?_
       (case side1=>repeat (first|(with_reducible first|exact HI526.out|apply IsS110.alloc|apply IsS110.drewN|apply IsS110.drew|apply IsS110.set_0|apply IsS110.set_1|refine IsS110.far ?_ NB526_521.out _|refine IsS110.far ?_ NB526_539.out _)|exact HI526.out))
       (case side2=>repeat (first|(with_reducible first|exact HB.out|apply zbA|apply zbN|apply zb1|refine zbS ?_ (IsS110.ge HI526.out)|refine zbS ?_ GE521.out|refine zbS ?_ GE539.out)|exact HB.out))
       rintro e w36 ⟨rfl,hi,hb,hk⟩
       refine ⟨_,rfl,?_⟩
       have n0_:=Z0.mk (Kd.R_mono (Kd.R_keep (IsS110.apart (show IsS110 w _ g526 t544 t545 from by repeat (first|(with_reducible first|exact HI526.out|apply IsS110.alloc|apply IsS110.drewN|apply IsS110.drew|apply IsS110.set_0|apply IsS110.set_1|refine IsS110.far ?_ NB526_521.out _|refine IsS110.far ?_ NB526_539.out _)|exact HI526.out)) (by (with_reducible repeat (first|apply Kd.R_alloc|apply Kd.R_drewN|apply Kd.R_drew));exact HO_540004.out) (by decide)) hk (fun _ h=>h.2)) (fun _ h=>h.1))
       have n1_:=Z0.mk (KeepBut.blk hk (g':=gb521) (o:=.cells #[.int .i64 0,.int .i64 0,.string (⟨#[]⟩:ByteArray),.string (⟨#[]⟩:ByteArray),.slice none 0 0] 55 (0,0)) (by (with_reducible repeat (first|refine zkN ?_ _|refine zkD ?_|refine zkA ?_ _));exact BK521.out) NB521_526.out (by simp))
       have n2_:=Z0.mk (KeepBut.blk hk (g':=gb539) (o:=.cells #[.int .i64 t527,.int .i64 t530,.string t533,.string t536,u540004] 55 (0,0)) (by (with_reducible repeat (first|refine zkN ?_ _|refine zkD ?_|refine zkA ?_ _));exact BK539.out) NB539_526.out (by simp))
       have n3_:=Z0.mk (hb)
       have n4_:=Z0.mk (hi)
       clear HO_540004
       clear BK521
       clear BK539
       clear HB
       clear HI526
       have HO_540004:=n0_
       have BK521:=n1_
       have BK539:=n2_
       have HB:=n3_
       have HI526:=n4_
       clear n0_ n1_ n2_ n3_ n4_
       (try clear hb)
       (try clear hb2)
       (try clear hk)
       (try clear hi)
       refine hK.out _ _ ⟨(zkC BK539.out 0).trans rfl,(zkC BK539.out 1).trans rfl,(zkC BK539.out 2).trans rfl,(zkC BK539.out 3).trans rfl,(zkC BK539.out 4).trans rfl⟩ (fun hHeld=>?_)
       clear hK K
       refine norm_ (a':=?_) ?_ ?_
       rotate_left
       ·show Act.put _ (some 41) _=_
        simp only [Act.put,List.setIfInBounds_toArray,List.set_cons_zero,List.set_cons_succ,i64_w,i32_w]
        rfl
       refine pure_ (i:=6) (N:=some 42) (v:=?_) (a':=?_) #[true,true,true,true,true,true,true,false,false,false,false] rfl rfl (any_of HT_.out (by kernel_rfl)) (fun _ _ _ h=>h) (Or.inl ⟨by rfl,?_⟩) ?_ ?_
       rotate_left
       ·intro w'
        go_simp
        with_reducible rfl
       rotate_left
       ·simp only [Act.put,List.setIfInBounds_toArray,List.set_cons_zero,List.set_cons_succ,i64_w,i32_w]
        rfl
       refine one_ (i:=7) (N:=some 43) #[true,true,true,true,true,true,true,true,false,false,false] rfl rfl (one_of HT_.out (by kernel_rfl)) (by decide) (fun K hK=>?_)
       refine value_ (w1:=?_) (v:=?_) (by rfl) rfl ?_ ?_
       rotate_left 2
       ·go_simp
        constructor
        ·rfl
        rfl
       refine hK.out _ _ ⟨(zkC (zkA BK539.out _) 0).trans rfl,(zkC (zkA BK539.out _) 1).trans rfl,(zkC (zkA BK539.out _) 2).trans rfl,(zkC (zkA BK539.out _) 3).trans rfl,(zkC (zkA BK539.out _) 4).trans rfl⟩ (fun hHeld=>?_)
       clear hK K
       refine norm_ (a':=?_) ?_ ?_
       rotate_left
       ·show Act.put _ (some 43) _=_
        simp only [Act.put,List.setIfInBounds_toArray,List.set_cons_zero,List.set_cons_succ,i64_w,i32_w]
        rfl
       refine one_ (i:=8) (N:=some 44) #[true,true,true,true,true,true,true,true,true,false,false] rfl rfl (one_of HT_.out (by kernel_rfl)) (by decide) (fun K hK=>?_)
       refine Kd.R_append_step k103 (w0:=w) w.heap.size (by rfl) (.tmp 37) (.tmp 43) 35 103 (.agg #[(.int .i64 0),(.int .i64 0)]) 16 rfl Try.underlying35 info103 rfl (by decide) (by omega) u540004 x540004_2 (⟨t543,t546⟩:S103) [.int .i64 t543,.int .i64 t546] (fun _=>True) (fun _=>False) rfl rfl ?aP (fun _ hk=>hk.elim) ?aF ?aO ?aB ?aS ?aL ?_
       (case aP=>exact k103_mkM _ _ _ (⟨t543,t546⟩:S103))
       (case aB=>exact (by repeat (first|(with_reducible first|exact HB.out|apply zbA|apply zbN|apply zb1|refine zbS ?_ (IsS110.ge HI526.out)|refine zbS ?_ GE521.out|refine zbS ?_ GE539.out)|exact HB.out)))
       (case aF=>exact (fun _ _=>trivial))
       (case aO=>exact (by (with_reducible repeat (first|apply Kd.R_alloc|apply Kd.R_drewN|apply Kd.R_drew));exact HO_540004.out))
       (case aS=>exact (below_size (by repeat (first|(with_reducible first|exact HB.out|apply zbA|apply zbN|apply zb1|refine zbS ?_ (IsS110.ge HI526.out)|refine zbS ?_ GE521.out|refine zbS ?_ GE539.out)|exact HB.out))))
       (case aL=>have:=LMc33.out;omega)
       intro v550 w37 ho hb hg hat
       rw [← Ny549.out] at ho
       have n0_:=Z0.mk (blk_grown (g:=gb521) (o:=.cells #[.int .i64 0,.int .i64 0,.string (⟨#[]⟩:ByteArray),.string (⟨#[]⟩:ByteArray),.slice none 0 0] 55 (0,0)) (by (with_reducible repeat (first|refine zkN ?_ _|refine zkD ?_|refine zkA ?_ _));exact BK521.out) hg (Kd.R_ne HO_540004.out BK521.out (by decide)))
       have n1_:=Z0.mk (blk_grown (g:=gb539) (o:=.cells #[.int .i64 t527,.int .i64 t530,.string t533,.string t536,u540004] 55 (0,0)) (by (with_reducible repeat (first|refine zkN ?_ _|refine zkD ?_|refine zkA ?_ _));exact BK539.out) hg (Kd.R_ne HO_540004.out BK539.out (by decide)))
       have n2_:=Z0.mk (IsS110.grown (by repeat (first|(with_reducible first|exact HI526.out|apply IsS110.alloc|apply IsS110.drewN|apply IsS110.drew|apply IsS110.set_0|apply IsS110.set_1|refine IsS110.far ?_ NB526_521.out _|refine IsS110.far ?_ NB526_539.out _)|exact HI526.out)) hg (IsS110.own_ne HI526.out HO_540004.out (by decide)))
       have n3_:=Z0.mk (hb)
       have n4_:=Z0.mk (ho)
       clear BK521
       clear BK539
       clear HI526
       clear HB
       clear HO_540004
       have BK521:=n0_
       have BK539:=n1_
       have HI526:=n2_
       have HB:=n3_
       have HO551:=n4_
       clear n0_ n1_ n2_ n3_ n4_
       clear ho hb hg hat
       obtain ⟨Ao38,co38,eo38⟩:=Kd.R_slice HO551.out
       (first|subst eo38|(injection eo38 with f1_ f2_ f3_;have f4_:=f1_.symm;have f5_:=f3_.symm;clear f1_ f2_ f3_;subst f4_;subst f5_))
       refine hK.out _ _ ⟨(zkC BK539.out 0).trans rfl,(zkC BK539.out 1).trans rfl,(zkC BK539.out 2).trans rfl,(zkC BK539.out 3).trans rfl,(zkC BK539.out 4).trans rfl⟩ (fun hHeld=>?_)
       clear hK K
       refine norm_ (a':=?_) ?_ ?_
       rotate_left
       ·show Act.put _ (some 44) _=_
        simp only [Act.put,List.setIfInBounds_toArray,List.set_cons_zero,List.set_cons_succ,i64_w,i32_w]
        rfl
       refine pure_ (i:=9) (N:=some 45) (v:=?_) (a':=?_) #[true,true,true,true,true,true,true,true,true,true,false] rfl rfl (any_of HT_.out (by kernel_rfl)) (fun _ _ _ h=>h) (Or.inl ⟨by rfl,?_⟩) ?_ ?_
       rotate_left
       ·intro w'
        go_simp
        with_reducible rfl
       rotate_left
       ·simp only [Act.put,List.setIfInBounds_toArray,List.set_cons_zero,List.set_cons_succ,i64_w,i32_w]
        rfl
       refine last_ (i:=10) (N:=none) #[true,true,true,true,true,true,true,true,true,true,true] rfl rfl (one_of HT_.out (by kernel_rfl)) (by decide) (fun K hK=>?_)
       have hs39 : w37.cell? ⟨gb539,4,none⟩=some (u540004):=(zkC BK539.out 4).trans rfl
       have hfs39:=zkF BK539.out 4
       have hns39_0:=NB521_539.out
       have hms39_0:=NB539_521.out
       refine skip_ (w1:=?_) (by rfl) rfl ?_ ?_
       rotate_left
       ·go_simp
        rfl
       refine hK.out _ _ ?_
       clear hK K
       refine done_ (done_of HT_.out (by kernel_rfl)) ?_
       try go_wp2
       go_roundg k2
       case measure=>have:=HJ2.out;have:=HK2.out;omega
       case rel=>exact ⟨(wrap64 (x34_2 + 1)),(t547),(t548),(y549),(.slice Ao38 y549.length co38),(by first|rfl|(simp;done)|(simp [*];done)),H',⟨by have:=HJ2.out;have:=HK2.out;omega⟩,⟨by (with_reducible repeat (first|apply Kd.R_alloc|apply Kd.R_drewN|apply Kd.R_drew));exact Kd.R_mono (Kd.R_far (p:=⟨gb539,4,none⟩) (Kd.R_types HO551.out BK539.out (by decide)) (fun _ hk=>hk.2) (.slice Ao38 y549.length co38)) (fun _ hk=>trivial)⟩,⟨by (with_reducible repeat (first|refine zkN ?_ _|refine zkD ?_|refine zkA ?_ _));refine blk_far ?_ NB521_539.out _;(with_reducible repeat (first|refine zkN ?_ _|refine zkD ?_|refine zkA ?_ _));exact BK521.out⟩,⟨by (with_reducible repeat (first|refine zkN ?_ _|refine zkD ?_|refine zkA ?_ _));refine blk_put (cs:=#[.int .i64 t527,.int .i64 t530,.string t533,.string t536,u540004]) ?_ 4 _ rfl;(with_reducible repeat (first|refine zkN ?_ _|refine zkD ?_|refine zkA ?_ _));exact BK539.out⟩,⟨by repeat (first|(with_reducible first|exact HI526.out|apply IsS110.alloc|apply IsS110.drewN|apply IsS110.drew|apply IsS110.set_0|apply IsS110.set_1|refine IsS110.far ?_ NB526_521.out _|refine IsS110.far ?_ NB526_539.out _)|exact HI526.out)⟩,⟨by repeat (first|(with_reducible first|exact HB.out|apply zbA|apply zbN|apply zb1|refine zbS ?_ (IsS110.ge HI526.out)|refine zbS ?_ GE521.out|refine zbS ?_ GE539.out)|exact HB.out)⟩⟩
      rw [if_neg c33] at H
      exact absurd H (by simp)
     rw [if_neg c30] at H
     have c30b0 : decide (x34_2 < t540)=false:=decide_eq_false c30
     clear c30
     replace H:=Option.bind_eq_some_iff.mp H
     obtain ⟨t552,A400,H⟩:=H
     replace H:(if t552=true then ((label_Encode.f k2 t527 t530 t533 t536 x540004_2 a1).bind fun t553=>(if t553.toList=a0.toList then (some (t527,t530,t533,t536,x540004_2,0)) else (some (0,0,(⟨#[]⟩:ByteArray),(⟨#[]⟩:ByteArray),([]:List (S103)),11)))) else (some (0,0,(⟨#[]⟩:ByteArray),(⟨#[]⟩:ByteArray),([]:List (S103)),11)))=some (r1,r2,r3,r4,r5,r6):=H
     have A40:=Z0.mk A400
     clear A400
     by_cases c41 : t552=true
     ·subst c41
      have H1:((label_Encode.f k2 t527 t530 t533 t536 x540004_2 a1).bind fun t553=>(if t553.toList=a0.toList then (some (t527,t530,t533,t536,x540004_2,0)) else (some (0,0,(⟨#[]⟩:ByteArray),(⟨#[]⟩:ByteArray),([]:List (S103)),11))))=some (r1,r2,r3,r4,r5,r6):=by rw [if_pos rfl] at H;exact H
      clear H
      have H:=H1
      clear H1
      replace H:=Option.bind_eq_some_iff.mp H
      obtain ⟨t553,A420,H⟩:=H
      replace H:(if t553.toList=a0.toList then (some (t527,t530,t533,t536,x540004_2,0)) else (some (0,0,(⟨#[]⟩:ByteArray),(⟨#[]⟩:ByteArray),([]:List (S103)),11)))=some (r1,r2,r3,r4,r5,r6):=H
      have A42:=Z0.mk A420
      clear A420
      by_cases c43 : t553.toList=a0.toList
      ·rw [if_pos c43] at H
       have c43b0:(t553.toList == a0.toList)=true:=beq_iff_eq.mpr c43
       have c43b1:(t553.toList != a0.toList)=false:=bne_eq_false_iff_eq.mpr c43
       clear c43
       simp only [Option.some.injEq,Prod.mk.injEq] at H
       obtain ⟨rfl,rfl,rfl,rfl,rfl,rfl⟩:=H
       have hnb44:=NB539_521.out
       have hnc44:=NB521_539.out
       have hnb45:=NB539_526.out
       have hnc45:=NB526_539.out
       have hcz46_0 : wr.cell? ⟨gb539,0,none⟩=some (.int .i64 t527):=(zkC BK539.out 0).trans rfl
       have hcz46_1 : wr.cell? ⟨gb539,1,none⟩=some (.int .i64 t530):=(zkC BK539.out 1).trans rfl
       have hcz46_2 : wr.cell? ⟨gb539,2,none⟩=some (.string t533):=(zkC BK539.out 2).trans rfl
       have hcz46_3 : wr.cell? ⟨gb539,3,none⟩=some (.string t536):=(zkC BK539.out 3).trans rfl
       have hcz46_4 : wr.cell? ⟨gb539,4,none⟩=some (u540004):=(zkC BK539.out 4).trans rfl
       have hfz46_0:=zkF BK539.out 0
       have hfz46_1:=zkF BK539.out 1
       have hfz46_2:=zkF BK539.out 2
       have hfz46_3:=zkF BK539.out 3
       have hfz46_4:=zkF BK539.out 4
       obtain ⟨Ao47,co47,eo47⟩:=Kd.R_slice HO_540004.out
       subst eo47
       go_wp2_with (first|((with_reducible refine gate_callee (f:=85) rfl ?_);refine goesL_ (some 49) rfl rfl Try.func85 (by kernel_rfl) rfl #[.agg #[.int .i64 t527,.int .i64 t530,.string t533,.string t536,.slice Ao47 x540004_2.length co47],.int .i64 a1] rfl (by (try simp only [List.map_toArray,List.map_cons,List.map_nil]);first|done|rfl|(simp only [List.length_drop,List.length_take];rfl)) ?_;(with_reducible refine (label_Valid.calls t527 t530 t533 t536 _ _ x540004_2 a1 true _ ?side1 ?side2 A40.out).mono ?_);(case side1=>repeat (first|exact (Kd.R_reads' HO_540004.out).2.2|(with_reducible refine Kd.C_alloc ?_ _)|(with_reducible refine Kd.C_drewN ?_ _)|(with_reducible refine Kd.C_drew ?_)));(case side2=>exact (Kd.R_reads' HO_540004.out).2.1);rintro e w48 ⟨rfl,hb⟩;refine ⟨_,rfl,?_⟩;have n0_:=Z0.mk (Kd.R_below (by (with_reducible repeat (first|apply Kd.R_alloc|apply Kd.R_drewN|apply Kd.R_drew));exact HO_540004.out) hb);have n1_:=Z0.mk (blk_below (g:=gb521) (o:=.cells #[.int .i64 0,.int .i64 0,.string (⟨#[]⟩:ByteArray),.string (⟨#[]⟩:ByteArray),.slice none 0 0] 55 (0,0)) (by (with_reducible repeat (first|refine zkN ?_ _|refine zkD ?_|refine zkA ?_ _));exact BK521.out) hb);have n2_:=Z0.mk (blk_below (g:=gb539) (o:=.cells #[.int .i64 t527,.int .i64 t530,.string t533,.string t536,.slice Ao47 x540004_2.length co47] 55 (0,0)) (by (with_reducible repeat (first|refine zkN ?_ _|refine zkD ?_|refine zkA ?_ _));exact BK539.out) hb);have n3_:=Z0.mk (IsS110.below (by repeat (first|(with_reducible first|exact HI526.out|apply IsS110.alloc|apply IsS110.drewN|apply IsS110.drew|apply IsS110.set_0|apply IsS110.set_1|refine IsS110.far ?_ NB526_521.out _|refine IsS110.far ?_ NB526_539.out _)|exact HI526.out)) hb);have n4_:=Z0.mk (below_step (by repeat (first|(with_reducible first|exact HB.out|apply zbA|apply zbN|apply zb1|refine zbS ?_ (IsS110.ge HI526.out)|refine zbS ?_ GE521.out|refine zbS ?_ GE539.out)|exact HB.out)) hb);clear HO_540004;clear BK521;clear BK539;clear HI526;clear HB;have HO_540004:=n0_;have BK521:=n1_;have BK539:=n2_;have HI526:=n3_;have HB:=n4_;clear n0_ n1_ n2_ n3_ n4_;(try clear hb);(try clear hb2);(try clear hk);(try clear hi);have hcz49_0 : w48.cell? ⟨gb539,0,none⟩=some (.int .i64 t527):=(zkC BK539.out 0).trans rfl;have hcz49_1 : w48.cell? ⟨gb539,1,none⟩=some (.int .i64 t530):=(zkC BK539.out 1).trans rfl;have hcz49_2 : w48.cell? ⟨gb539,2,none⟩=some (.string t533):=(zkC BK539.out 2).trans rfl;have hcz49_3 : w48.cell? ⟨gb539,3,none⟩=some (.string t536):=(zkC BK539.out 3).trans rfl;have hcz49_4 : w48.cell? ⟨gb539,4,none⟩=some (.slice Ao47 x540004_2.length co47):=(zkC BK539.out 4).trans rfl;have hfz49_0:=zkF BK539.out 0;have hfz49_1:=zkF BK539.out 1;have hfz49_2:=zkF BK539.out 2;have hfz49_3:=zkF BK539.out 3;have hfz49_4:=zkF BK539.out 4)|(go_at_call 59;(with_reducible refine (label_Encode.calls k2 t527 t530 t533 t536 _ _ x540004_2 a1 t553 _ ?side1 ?side2 A42.out).mono ?_);(case side1=>repeat (first|exact (Kd.R_reads' HO_540004.out).2.2|(with_reducible refine Kd.C_alloc ?_ _)|(with_reducible refine Kd.C_drewN ?_ _)|(with_reducible refine Kd.C_drew ?_)));(case side2=>exact (Kd.R_reads' HO_540004.out).2.1);rintro e w50 ⟨rfl,hb⟩;have n0_:=Z0.mk (Kd.R_below (by (with_reducible repeat (first|apply Kd.R_alloc|apply Kd.R_drewN|apply Kd.R_drew));exact HO_540004.out) hb);have n1_:=Z0.mk (blk_below (g:=gb521) (o:=.cells #[.int .i64 0,.int .i64 0,.string (⟨#[]⟩:ByteArray),.string (⟨#[]⟩:ByteArray),.slice none 0 0] 55 (0,0)) (by (with_reducible repeat (first|refine zkN ?_ _|refine zkD ?_|refine zkA ?_ _));exact BK521.out) hb);have n2_:=Z0.mk (blk_below (g:=gb539) (o:=.cells #[.int .i64 t527,.int .i64 t530,.string t533,.string t536,.slice Ao47 x540004_2.length co47] 55 (0,0)) (by (with_reducible repeat (first|refine zkN ?_ _|refine zkD ?_|refine zkA ?_ _));exact BK539.out) hb);have n3_:=Z0.mk (IsS110.below (by repeat (first|(with_reducible first|exact HI526.out|apply IsS110.alloc|apply IsS110.drewN|apply IsS110.drew|apply IsS110.set_0|apply IsS110.set_1|refine IsS110.far ?_ NB526_521.out _|refine IsS110.far ?_ NB526_539.out _)|exact HI526.out)) hb);have n4_:=Z0.mk (below_step (by repeat (first|(with_reducible first|exact HB.out|apply zbA|apply zbN|apply zb1|refine zbS ?_ (IsS110.ge HI526.out)|refine zbS ?_ GE521.out|refine zbS ?_ GE539.out)|exact HB.out)) hb);clear HO_540004;clear BK521;clear BK539;clear HI526;clear HB;have HO_540004:=n0_;have BK521:=n1_;have BK539:=n2_;have HI526:=n3_;have HB:=n4_;clear n0_ n1_ n2_ n3_ n4_;(try clear hb);(try clear hb2);(try clear hk);(try clear hi);have hcz51_0 : w50.cell? ⟨gb539,0,none⟩=some (.int .i64 t527):=(zkC BK539.out 0).trans rfl;have hcz51_1 : w50.cell? ⟨gb539,1,none⟩=some (.int .i64 t530):=(zkC BK539.out 1).trans rfl;have hcz51_2 : w50.cell? ⟨gb539,2,none⟩=some (.string t533):=(zkC BK539.out 2).trans rfl;have hcz51_3 : w50.cell? ⟨gb539,3,none⟩=some (.string t536):=(zkC BK539.out 3).trans rfl;have hcz51_4 : w50.cell? ⟨gb539,4,none⟩=some (.slice Ao47 x540004_2.length co47):=(zkC BK539.out 4).trans rfl;have hfz51_0:=zkF BK539.out 0;have hfz51_1:=zkF BK539.out 1;have hfz51_2:=zkF BK539.out 2;have hfz51_3:=zkF BK539.out 3;have hfz51_4:=zkF BK539.out 4;have hnb52:=NB521_526.out;have hnc52:=NB526_521.out;have hcz53_0 : w50.cell? ⟨gb521,0,none⟩=some (.int .i64 0):=(zkC BK521.out 0).trans rfl;have hcz53_1 : w50.cell? ⟨gb521,1,none⟩=some (.int .i64 0):=(zkC BK521.out 1).trans rfl;have hcz53_2 : w50.cell? ⟨gb521,2,none⟩=some (.string (⟨#[]⟩:ByteArray)):=(zkC BK521.out 2).trans rfl;have hcz53_3 : w50.cell? ⟨gb521,3,none⟩=some (.string (⟨#[]⟩:ByteArray)):=(zkC BK521.out 3).trans rfl;have hcz53_4 : w50.cell? ⟨gb521,4,none⟩=some (.slice none 0 0):=(zkC BK521.out 4).trans rfl;have hfz53_0:=zkF BK521.out 0;have hfz53_1:=zkF BK521.out 1;have hfz53_2:=zkF BK521.out 2;have hfz53_3:=zkF BK521.out 3;have hfz53_4:=zkF BK521.out 4))
       refine bodyPost_ret (results_ct rfl _ _ gb521 55 #[.int .i64 t527,.int .i64 t530,.string t533,.string t536,.slice Ao47 x540004_2.length co47] (0,0) _ rfl (by (with_reducible repeat (first|refine zkN ?_ _|refine zkD ?_|refine zkA ?_ _));refine blk_put (cs:=#[.int .i64 t527,.int .i64 t530,.string t533,.string t536,.slice none 0 0]) ?_ 4 _ rfl;(with_reducible repeat (first|refine zkN ?_ _|refine zkD ?_|refine zkA ?_ _));refine blk_put (cs:=#[.int .i64 t527,.int .i64 t530,.string t533,.string (⟨#[]⟩:ByteArray),.slice none 0 0]) ?_ 3 _ rfl;(with_reducible repeat (first|refine zkN ?_ _|refine zkD ?_|refine zkA ?_ _));refine blk_put (cs:=#[.int .i64 t527,.int .i64 t530,.string (⟨#[]⟩:ByteArray),.string (⟨#[]⟩:ByteArray),.slice none 0 0]) ?_ 2 _ rfl;(with_reducible repeat (first|refine zkN ?_ _|refine zkD ?_|refine zkA ?_ _));refine blk_put (cs:=#[.int .i64 t527,.int .i64 0,.string (⟨#[]⟩:ByteArray),.string (⟨#[]⟩:ByteArray),.slice none 0 0]) ?_ 1 _ rfl;(with_reducible repeat (first|refine zkN ?_ _|refine zkD ?_|refine zkA ?_ _));refine blk_put (cs:=#[.int .i64 0,.int .i64 0,.string (⟨#[]⟩:ByteArray),.string (⟨#[]⟩:ByteArray),.slice none 0 0]) ?_ 0 _ rfl;(with_reducible repeat (first|refine zkN ?_ _|refine zkD ?_|refine zkA ?_ _));exact BK521.out) Try.underlying55 rfl (by kernel_rfl)) rfl ?_
       exact ⟨_,by first|rfl|(simp [errW_none,errW_some] <;> rfl)|(simp [*,errW_none,errW_some] <;> rfl),by (with_reducible repeat (first|apply Kd.R_alloc|apply Kd.R_drewN|apply Kd.R_drew));exact Kd.R_mono (Kd.R_far (p:=⟨gb521,4,none⟩) (Kd.R_far (p:=⟨gb521,3,none⟩) (Kd.R_far (p:=⟨gb521,2,none⟩) (Kd.R_far (p:=⟨gb521,1,none⟩) (Kd.R_far (p:=⟨gb521,0,none⟩) (Kd.R_types HO_540004.out BK521.out (by decide)) (fun _ hk=>hk.2) (.int .i64 t527)) (fun _ hk=>hk.2) (.int .i64 t530)) (fun _ hk=>hk.2) (.string t533)) (fun _ hk=>hk.2) (.string t536)) (fun _ hk=>hk.2) (.slice Ao47 x540004_2.length co47)) (fun _ hk=>trivial),by repeat (first|(with_reducible first|exact HB.out|apply zbA|apply zbN|apply zb1|refine zbS ?_ (IsS110.ge HI526.out)|refine zbS ?_ GE521.out|refine zbS ?_ GE539.out)|exact HB.out)⟩
      rw [if_neg c43] at H
      have c43b0:(t553.toList == a0.toList)=false:=beq_eq_false_iff_ne.mpr c43
      have c43b1:(t553.toList != a0.toList)=true:=bne_iff_ne.mpr c43
      simp only [Option.some.injEq,Prod.mk.injEq] at H
      obtain ⟨rfl,rfl,rfl,rfl,rfl,rfl⟩:=H
      have hnb54:=NB539_521.out
      have hnc54:=NB521_539.out
      have hnb55:=NB539_526.out
      have hnc55:=NB526_539.out
      have hcz56_0 : wr.cell? ⟨gb539,0,none⟩=some (.int .i64 t527):=(zkC BK539.out 0).trans rfl
      have hcz56_1 : wr.cell? ⟨gb539,1,none⟩=some (.int .i64 t530):=(zkC BK539.out 1).trans rfl
      have hcz56_2 : wr.cell? ⟨gb539,2,none⟩=some (.string t533):=(zkC BK539.out 2).trans rfl
      have hcz56_3 : wr.cell? ⟨gb539,3,none⟩=some (.string t536):=(zkC BK539.out 3).trans rfl
      have hcz56_4 : wr.cell? ⟨gb539,4,none⟩=some (u540004):=(zkC BK539.out 4).trans rfl
      have hfz56_0:=zkF BK539.out 0
      have hfz56_1:=zkF BK539.out 1
      have hfz56_2:=zkF BK539.out 2
      have hfz56_3:=zkF BK539.out 3
      have hfz56_4:=zkF BK539.out 4
      obtain ⟨Ao57,co57,eo57⟩:=Kd.R_slice HO_540004.out
      subst eo57
      go_wp2_with (first|((with_reducible refine gate_callee (f:=85) rfl ?_);refine goesL_ (some 49) rfl rfl Try.func85 (by kernel_rfl) rfl #[.agg #[.int .i64 t527,.int .i64 t530,.string t533,.string t536,.slice Ao57 x540004_2.length co57],.int .i64 a1] rfl (by (try simp only [List.map_toArray,List.map_cons,List.map_nil]);first|done|rfl|(simp only [List.length_drop,List.length_take];rfl)) ?_;(with_reducible refine (label_Valid.calls t527 t530 t533 t536 _ _ x540004_2 a1 true _ ?side1 ?side2 A40.out).mono ?_);(case side1=>repeat (first|exact (Kd.R_reads' HO_540004.out).2.2|(with_reducible refine Kd.C_alloc ?_ _)|(with_reducible refine Kd.C_drewN ?_ _)|(with_reducible refine Kd.C_drew ?_)));(case side2=>exact (Kd.R_reads' HO_540004.out).2.1);rintro e w58 ⟨rfl,hb⟩;refine ⟨_,rfl,?_⟩;have n0_:=Z0.mk (Kd.R_below (by (with_reducible repeat (first|apply Kd.R_alloc|apply Kd.R_drewN|apply Kd.R_drew));exact HO_540004.out) hb);have n1_:=Z0.mk (blk_below (g:=gb521) (o:=.cells #[.int .i64 0,.int .i64 0,.string (⟨#[]⟩:ByteArray),.string (⟨#[]⟩:ByteArray),.slice none 0 0] 55 (0,0)) (by (with_reducible repeat (first|refine zkN ?_ _|refine zkD ?_|refine zkA ?_ _));exact BK521.out) hb);have n2_:=Z0.mk (blk_below (g:=gb539) (o:=.cells #[.int .i64 t527,.int .i64 t530,.string t533,.string t536,.slice Ao57 x540004_2.length co57] 55 (0,0)) (by (with_reducible repeat (first|refine zkN ?_ _|refine zkD ?_|refine zkA ?_ _));exact BK539.out) hb);have n3_:=Z0.mk (IsS110.below (by repeat (first|(with_reducible first|exact HI526.out|apply IsS110.alloc|apply IsS110.drewN|apply IsS110.drew|apply IsS110.set_0|apply IsS110.set_1|refine IsS110.far ?_ NB526_521.out _|refine IsS110.far ?_ NB526_539.out _)|exact HI526.out)) hb);have n4_:=Z0.mk (below_step (by repeat (first|(with_reducible first|exact HB.out|apply zbA|apply zbN|apply zb1|refine zbS ?_ (IsS110.ge HI526.out)|refine zbS ?_ GE521.out|refine zbS ?_ GE539.out)|exact HB.out)) hb);clear HO_540004;clear BK521;clear BK539;clear HI526;clear HB;have HO_540004:=n0_;have BK521:=n1_;have BK539:=n2_;have HI526:=n3_;have HB:=n4_;clear n0_ n1_ n2_ n3_ n4_;(try clear hb);(try clear hb2);(try clear hk);(try clear hi);have hcz59_0 : w58.cell? ⟨gb539,0,none⟩=some (.int .i64 t527):=(zkC BK539.out 0).trans rfl;have hcz59_1 : w58.cell? ⟨gb539,1,none⟩=some (.int .i64 t530):=(zkC BK539.out 1).trans rfl;have hcz59_2 : w58.cell? ⟨gb539,2,none⟩=some (.string t533):=(zkC BK539.out 2).trans rfl;have hcz59_3 : w58.cell? ⟨gb539,3,none⟩=some (.string t536):=(zkC BK539.out 3).trans rfl;have hcz59_4 : w58.cell? ⟨gb539,4,none⟩=some (.slice Ao57 x540004_2.length co57):=(zkC BK539.out 4).trans rfl;have hfz59_0:=zkF BK539.out 0;have hfz59_1:=zkF BK539.out 1;have hfz59_2:=zkF BK539.out 2;have hfz59_3:=zkF BK539.out 3;have hfz59_4:=zkF BK539.out 4)|(go_at_call 59;(with_reducible refine (label_Encode.calls k2 t527 t530 t533 t536 _ _ x540004_2 a1 t553 _ ?side1 ?side2 A42.out).mono ?_);(case side1=>repeat (first|exact (Kd.R_reads' HO_540004.out).2.2|(with_reducible refine Kd.C_alloc ?_ _)|(with_reducible refine Kd.C_drewN ?_ _)|(with_reducible refine Kd.C_drew ?_)));(case side2=>exact (Kd.R_reads' HO_540004.out).2.1);rintro e w60 ⟨rfl,hb⟩;have n0_:=Z0.mk (Kd.R_below (by (with_reducible repeat (first|apply Kd.R_alloc|apply Kd.R_drewN|apply Kd.R_drew));exact HO_540004.out) hb);have n1_:=Z0.mk (blk_below (g:=gb521) (o:=.cells #[.int .i64 0,.int .i64 0,.string (⟨#[]⟩:ByteArray),.string (⟨#[]⟩:ByteArray),.slice none 0 0] 55 (0,0)) (by (with_reducible repeat (first|refine zkN ?_ _|refine zkD ?_|refine zkA ?_ _));exact BK521.out) hb);have n2_:=Z0.mk (blk_below (g:=gb539) (o:=.cells #[.int .i64 t527,.int .i64 t530,.string t533,.string t536,.slice Ao57 x540004_2.length co57] 55 (0,0)) (by (with_reducible repeat (first|refine zkN ?_ _|refine zkD ?_|refine zkA ?_ _));exact BK539.out) hb);have n3_:=Z0.mk (IsS110.below (by repeat (first|(with_reducible first|exact HI526.out|apply IsS110.alloc|apply IsS110.drewN|apply IsS110.drew|apply IsS110.set_0|apply IsS110.set_1|refine IsS110.far ?_ NB526_521.out _|refine IsS110.far ?_ NB526_539.out _)|exact HI526.out)) hb);have n4_:=Z0.mk (below_step (by repeat (first|(with_reducible first|exact HB.out|apply zbA|apply zbN|apply zb1|refine zbS ?_ (IsS110.ge HI526.out)|refine zbS ?_ GE521.out|refine zbS ?_ GE539.out)|exact HB.out)) hb);clear HO_540004;clear BK521;clear BK539;clear HI526;clear HB;have HO_540004:=n0_;have BK521:=n1_;have BK539:=n2_;have HI526:=n3_;have HB:=n4_;clear n0_ n1_ n2_ n3_ n4_;(try clear hb);(try clear hb2);(try clear hk);(try clear hi);have hnb61:=NB521_526.out;have hnc61:=NB526_521.out;have hcz62_0 : w60.cell? ⟨gb521,0,none⟩=some (.int .i64 0):=(zkC BK521.out 0).trans rfl;have hcz62_1 : w60.cell? ⟨gb521,1,none⟩=some (.int .i64 0):=(zkC BK521.out 1).trans rfl;have hcz62_2 : w60.cell? ⟨gb521,2,none⟩=some (.string (⟨#[]⟩:ByteArray)):=(zkC BK521.out 2).trans rfl;have hcz62_3 : w60.cell? ⟨gb521,3,none⟩=some (.string (⟨#[]⟩:ByteArray)):=(zkC BK521.out 3).trans rfl;have hcz62_4 : w60.cell? ⟨gb521,4,none⟩=some (.slice none 0 0):=(zkC BK521.out 4).trans rfl;have hfz62_0:=zkF BK521.out 0;have hfz62_1:=zkF BK521.out 1;have hfz62_2:=zkF BK521.out 2;have hfz62_3:=zkF BK521.out 3;have hfz62_4:=zkF BK521.out 4))
      refine bodyPost_ret (results_ct rfl _ _ gb521 55 #[.int .i64 0,.int .i64 0,.string (⟨#[]⟩:ByteArray),.string (⟨#[]⟩:ByteArray),.slice none 0 0] (0,0) _ rfl (by (with_reducible repeat (first|refine zkN ?_ _|refine zkD ?_|refine zkA ?_ _));refine blk_put (cs:=#[.int .i64 0,.int .i64 0,.string (⟨#[]⟩:ByteArray),.string (⟨#[]⟩:ByteArray),.slice none 0 0]) ?_ 4 _ rfl;(with_reducible repeat (first|refine zkN ?_ _|refine zkD ?_|refine zkA ?_ _));refine blk_put (cs:=#[.int .i64 0,.int .i64 0,.string (⟨#[]⟩:ByteArray),.string (⟨#[]⟩:ByteArray),.slice none 0 0]) ?_ 3 _ rfl;(with_reducible repeat (first|refine zkN ?_ _|refine zkD ?_|refine zkA ?_ _));refine blk_put (cs:=#[.int .i64 0,.int .i64 0,.string (⟨#[]⟩:ByteArray),.string (⟨#[]⟩:ByteArray),.slice none 0 0]) ?_ 2 _ rfl;(with_reducible repeat (first|refine zkN ?_ _|refine zkD ?_|refine zkA ?_ _));refine blk_put (cs:=#[.int .i64 0,.int .i64 0,.string (⟨#[]⟩:ByteArray),.string (⟨#[]⟩:ByteArray),.slice none 0 0]) ?_ 1 _ rfl;(with_reducible repeat (first|refine zkN ?_ _|refine zkD ?_|refine zkA ?_ _));refine blk_put (cs:=#[.int .i64 0,.int .i64 0,.string (⟨#[]⟩:ByteArray),.string (⟨#[]⟩:ByteArray),.slice none 0 0]) ?_ 0 _ rfl;(with_reducible repeat (first|refine zkN ?_ _|refine zkD ?_|refine zkA ?_ _));exact BK521.out) Try.underlying55 rfl (by kernel_rfl)) rfl ?_
      exact ⟨_,by first|rfl|(simp [errW_none,errW_some] <;> rfl)|(simp [*,errW_none,errW_some] <;> rfl),by first|exact Kd.R_nil _ _ _ _ _|exact Kd.N_nil _ _ _ _ _|exact Kd.V_nil _ _ _ _ _|exact Kd.Q_nil _ _ _ _ _|exact Kd.S_nil _ _ _ _ _,by repeat (first|(with_reducible first|exact HB.out|apply zbA|apply zbN|apply zb1|refine zbS ?_ (IsS110.ge HI526.out)|refine zbS ?_ GE521.out|refine zbS ?_ GE539.out)|exact HB.out)⟩
     replace c41:=Bool.eq_false_iff.mpr c41
     subst c41
     have H1:(some (0,0,(⟨#[]⟩:ByteArray),(⟨#[]⟩:ByteArray),([]:List (S103)),11))=some (r1,r2,r3,r4,r5,r6):=by rw [if_neg (show ¬ (false=true) by decide)] at H;exact H
     clear H
     have H:=H1
     clear H1
     simp only [Option.some.injEq,Prod.mk.injEq] at H
     obtain ⟨rfl,rfl,rfl,rfl,rfl,rfl⟩:=H
     have hnb63:=NB539_521.out
     have hnc63:=NB521_539.out
     have hnb64:=NB539_526.out
     have hnc64:=NB526_539.out
     have hcz65_0 : wr.cell? ⟨gb539,0,none⟩=some (.int .i64 t527):=(zkC BK539.out 0).trans rfl
     have hcz65_1 : wr.cell? ⟨gb539,1,none⟩=some (.int .i64 t530):=(zkC BK539.out 1).trans rfl
     have hcz65_2 : wr.cell? ⟨gb539,2,none⟩=some (.string t533):=(zkC BK539.out 2).trans rfl
     have hcz65_3 : wr.cell? ⟨gb539,3,none⟩=some (.string t536):=(zkC BK539.out 3).trans rfl
     have hcz65_4 : wr.cell? ⟨gb539,4,none⟩=some (u540004):=(zkC BK539.out 4).trans rfl
     have hfz65_0:=zkF BK539.out 0
     have hfz65_1:=zkF BK539.out 1
     have hfz65_2:=zkF BK539.out 2
     have hfz65_3:=zkF BK539.out 3
     have hfz65_4:=zkF BK539.out 4
     obtain ⟨Ao66,co66,eo66⟩:=Kd.R_slice HO_540004.out
     subst eo66
     go_wp2_with (first|((with_reducible refine gate_callee (f:=85) rfl ?_);refine goesL_ (some 49) rfl rfl Try.func85 (by kernel_rfl) rfl #[.agg #[.int .i64 t527,.int .i64 t530,.string t533,.string t536,.slice Ao66 x540004_2.length co66],.int .i64 a1] rfl (by (try simp only [List.map_toArray,List.map_cons,List.map_nil]);first|done|rfl|(simp only [List.length_drop,List.length_take];rfl)) ?_;(with_reducible refine (label_Valid.calls t527 t530 t533 t536 _ _ x540004_2 a1 false _ ?side1 ?side2 A40.out).mono ?_);(case side1=>repeat (first|exact (Kd.R_reads' HO_540004.out).2.2|(with_reducible refine Kd.C_alloc ?_ _)|(with_reducible refine Kd.C_drewN ?_ _)|(with_reducible refine Kd.C_drew ?_)));(case side2=>exact (Kd.R_reads' HO_540004.out).2.1);rintro e w67 ⟨rfl,hb⟩;refine ⟨_,rfl,?_⟩;have n0_:=Z0.mk (Kd.R_below (by (with_reducible repeat (first|apply Kd.R_alloc|apply Kd.R_drewN|apply Kd.R_drew));exact HO_540004.out) hb);have n1_:=Z0.mk (blk_below (g:=gb521) (o:=.cells #[.int .i64 0,.int .i64 0,.string (⟨#[]⟩:ByteArray),.string (⟨#[]⟩:ByteArray),.slice none 0 0] 55 (0,0)) (by (with_reducible repeat (first|refine zkN ?_ _|refine zkD ?_|refine zkA ?_ _));exact BK521.out) hb);have n2_:=Z0.mk (blk_below (g:=gb539) (o:=.cells #[.int .i64 t527,.int .i64 t530,.string t533,.string t536,.slice Ao66 x540004_2.length co66] 55 (0,0)) (by (with_reducible repeat (first|refine zkN ?_ _|refine zkD ?_|refine zkA ?_ _));exact BK539.out) hb);have n3_:=Z0.mk (IsS110.below (by repeat (first|(with_reducible first|exact HI526.out|apply IsS110.alloc|apply IsS110.drewN|apply IsS110.drew|apply IsS110.set_0|apply IsS110.set_1|refine IsS110.far ?_ NB526_521.out _|refine IsS110.far ?_ NB526_539.out _)|exact HI526.out)) hb);have n4_:=Z0.mk (below_step (by repeat (first|(with_reducible first|exact HB.out|apply zbA|apply zbN|apply zb1|refine zbS ?_ (IsS110.ge HI526.out)|refine zbS ?_ GE521.out|refine zbS ?_ GE539.out)|exact HB.out)) hb);clear HO_540004;clear BK521;clear BK539;clear HI526;clear HB;have HO_540004:=n0_;have BK521:=n1_;have BK539:=n2_;have HI526:=n3_;have HB:=n4_;clear n0_ n1_ n2_ n3_ n4_;(try clear hb);(try clear hb2);(try clear hk);(try clear hi);have hnb68:=NB521_526.out;have hnc68:=NB526_521.out;have hcz69_0 : w67.cell? ⟨gb521,0,none⟩=some (.int .i64 0):=(zkC BK521.out 0).trans rfl;have hcz69_1 : w67.cell? ⟨gb521,1,none⟩=some (.int .i64 0):=(zkC BK521.out 1).trans rfl;have hcz69_2 : w67.cell? ⟨gb521,2,none⟩=some (.string (⟨#[]⟩:ByteArray)):=(zkC BK521.out 2).trans rfl;have hcz69_3 : w67.cell? ⟨gb521,3,none⟩=some (.string (⟨#[]⟩:ByteArray)):=(zkC BK521.out 3).trans rfl;have hcz69_4 : w67.cell? ⟨gb521,4,none⟩=some (.slice none 0 0):=(zkC BK521.out 4).trans rfl;have hfz69_0:=zkF BK521.out 0;have hfz69_1:=zkF BK521.out 1;have hfz69_2:=zkF BK521.out 2;have hfz69_3:=zkF BK521.out 3;have hfz69_4:=zkF BK521.out 4))
     refine bodyPost_ret (results_ct rfl _ _ gb521 55 #[.int .i64 0,.int .i64 0,.string (⟨#[]⟩:ByteArray),.string (⟨#[]⟩:ByteArray),.slice none 0 0] (0,0) _ rfl (by (with_reducible repeat (first|refine zkN ?_ _|refine zkD ?_|refine zkA ?_ _));refine blk_put (cs:=#[.int .i64 0,.int .i64 0,.string (⟨#[]⟩:ByteArray),.string (⟨#[]⟩:ByteArray),.slice none 0 0]) ?_ 4 _ rfl;(with_reducible repeat (first|refine zkN ?_ _|refine zkD ?_|refine zkA ?_ _));refine blk_put (cs:=#[.int .i64 0,.int .i64 0,.string (⟨#[]⟩:ByteArray),.string (⟨#[]⟩:ByteArray),.slice none 0 0]) ?_ 3 _ rfl;(with_reducible repeat (first|refine zkN ?_ _|refine zkD ?_|refine zkA ?_ _));refine blk_put (cs:=#[.int .i64 0,.int .i64 0,.string (⟨#[]⟩:ByteArray),.string (⟨#[]⟩:ByteArray),.slice none 0 0]) ?_ 2 _ rfl;(with_reducible repeat (first|refine zkN ?_ _|refine zkD ?_|refine zkA ?_ _));refine blk_put (cs:=#[.int .i64 0,.int .i64 0,.string (⟨#[]⟩:ByteArray),.string (⟨#[]⟩:ByteArray),.slice none 0 0]) ?_ 1 _ rfl;(with_reducible repeat (first|refine zkN ?_ _|refine zkD ?_|refine zkA ?_ _));refine blk_put (cs:=#[.int .i64 0,.int .i64 0,.string (⟨#[]⟩:ByteArray),.string (⟨#[]⟩:ByteArray),.slice none 0 0]) ?_ 0 _ rfl;(with_reducible repeat (first|refine zkN ?_ _|refine zkD ?_|refine zkA ?_ _));exact BK521.out) Try.underlying55 rfl (by kernel_rfl)) rfl ?_
     exact ⟨_,by first|rfl|(simp [errW_none,errW_some] <;> rfl)|(simp [*,errW_none,errW_some] <;> rfl),by first|exact Kd.R_nil _ _ _ _ _|exact Kd.N_nil _ _ _ _ _|exact Kd.V_nil _ _ _ _ _|exact Kd.Q_nil _ _ _ _ _|exact Kd.S_nil _ _ _ _ _,by repeat (first|(with_reducible first|exact HB.out|apply zbA|apply zbN|apply zb1|refine zbS ?_ (IsS110.ge HI526.out)|refine zbS ?_ GE521.out|refine zbS ?_ GE539.out)|exact HB.out)⟩
end Go.Proofs.Ytegefemkmdlmaaa.P
