import Derived.Test.YtegefemkmdlmaaaF0
import Derived.Test.YtegefemkmdlmaaaQe
import Derived.Test.YtegefemkmdlmaaaF58
import Derived.Test.YtegefemkmdlmaaaF87
import Derived.Test.YtegefemkmdlmaaaF92
namespace Go.Proofs.Ytegefemkmdlmaaa.P
open Go.RowKit Go.Proofs.YtegefemkmdlmaaaW.PrintWords Go.Proofs.YtegefemkmdlmaaaW.PrintLast Go.Proofs.YtegefemkmdlmaaaW.PrintMore
attribute [local go_sem] max2_int min2_int max_two min_two max_three min_three max_four min_four
set_option linter.unusedVariables false
set_option linter.unusedSimpArgs false
def dasdlaw07_LabelDecodes.j0:Nat→ByteArray→Int→Bool→Option (Bool)
 | 0,_,_,_=>none
 | k + 1,x0,x1,x15=>if x15=true then ((dasdlaw07_awake.f k).bind fun t1020=>(some t1020)) else ((label_Decode.f k x0 x1).bind fun bt1021=>((q7Decode.f k x0 x1).bind fun bt1030=>(if bt1021.2.2.2.2.2=bt1030.2.2.2.2.2 then ((q7Equal.f k bt1021.1 bt1021.2.1 bt1021.2.2.1 bt1021.2.2.2.1 bt1021.2.2.2.2.1 bt1030.1 bt1030.2.1 bt1030.2.2.1 bt1030.2.2.2.1 bt1030.2.2.2.2.1).bind fun t1039=>(some t1039)) else (some false))))
def dasdlaw07_LabelDecodes.f (k:Nat) (a0:ByteArray) (a1:Int):Option (Bool):=(dasdlaw07_awake.f k).bind fun t1019=>(if t1019=true then (dasdlaw07_LabelDecodes.j0 k a0 a1 (decide ((a0.size:Int) > 1100))) else (dasdlaw07_LabelDecodes.j0 k a0 a1 true))
theorem dasdlaw07_LabelDecodes.mono_l:∀ k,(∀ y0 y1 y2,LeO (dasdlaw07_LabelDecodes.j0 k y0 y1 y2) (dasdlaw07_LabelDecodes.j0 (k + 1) y0 y1 y2))
 | 0=>fun _ _ _ r h=>by simp [dasdlaw07_LabelDecodes.j0] at h
 | k + 1=>by
  have ih0:=dasdlaw07_LabelDecodes.mono_l k
  ·intro y0 y1 y2
   unfold dasdlaw07_LabelDecodes.j0
   repeat' first
   | (with_reducible exact ih0 _ _ _)
   | (with_reducible exact dasdlaw07_awake.mono _)
   | (with_reducible exact q7Decode.mono _ _ _)
   | (with_reducible exact q7Equal.mono _ _ _ _ _ _ _ _ _ _ _)
   | (with_reducible exact label_Decode.mono _ _ _)
   | (with_reducible exact LeO.refl _)
   | (with_reducible exact LeO.none _)
   | (with_reducible refine LeO.ite ?_ ?_)
   | (with_reducible refine LeO.bind ?_ (fun _=>?_))
   | exact ih0 _ _ _
   | exact dasdlaw07_awake.mono _
   | exact q7Decode.mono _ _ _
   | exact q7Equal.mono _ _ _ _ _ _ _ _ _ _ _
   | exact label_Decode.mono _ _ _
   | exact LeO.none _
   | refine LeO.ite ?_ ?_
   | refine LeO.bind ?_ (fun _=>?_)
theorem dasdlaw07_LabelDecodes.mono:∀ a0 a1 k,LeO (dasdlaw07_LabelDecodes.f k a0 a1) (dasdlaw07_LabelDecodes.f (k + 1) a0 a1):=by
 intro a0 a1 k
 have ih0:=dasdlaw07_LabelDecodes.mono_l k
 unfold dasdlaw07_LabelDecodes.f
 repeat' first
   | (with_reducible exact ih0 _ _ _)
   | (with_reducible exact dasdlaw07_awake.mono _)
   | (with_reducible exact q7Decode.mono _ _ _)
   | (with_reducible exact q7Equal.mono _ _ _ _ _ _ _ _ _ _ _)
   | (with_reducible exact label_Decode.mono _ _ _)
   | (with_reducible exact LeO.refl _)
   | (with_reducible exact LeO.none _)
   | (with_reducible refine LeO.ite ?_ ?_)
   | (with_reducible refine LeO.bind ?_ (fun _=>?_))
   | exact ih0 _ _ _
   | exact dasdlaw07_awake.mono _
   | exact q7Decode.mono _ _ _
   | exact q7Equal.mono _ _ _ _ _ _ _ _ _ _ _
   | exact label_Decode.mono _ _ _
   | exact LeO.none _
   | refine LeO.ite ?_ ?_
   | refine LeO.bind ?_ (fun _=>?_)
set_option maxHeartbeats 8000000 in
set_option maxRecDepth 100000 in
theorem dasdlaw07_LabelDecodes.calls (k:Nat) (a0:ByteArray) (a1:Int) (r:Bool) (w:World) (h : dasdlaw07_LabelDecodes.f k a0 a1=some r) :
  Calls Try.prog 23 #[.string a0,.int .i64 a1] w fun e w'=>e=.returned (.bool r)∧Below w.heap.size w w':=by
 have hu55:=Try.underlying55
 have HB:=Z0.mk (Below.refl w.heap.size w)
 have H:((dasdlaw07_awake.f k).bind fun t1019=>(if t1019=true then (dasdlaw07_LabelDecodes.j0 k a0 a1 (decide ((a0.size:Int) > 1100))) else (dasdlaw07_LabelDecodes.j0 k a0 a1 true)))=some r:=h
 clear h
 have HC3:=Z0.mk H
 clear H
 go_enter Try.func23,Try.ntmps23
 go_upto_region 1 with (fail)
 go_cut [15] (fun v15 wc=>∃ (kq:Nat) (x15_2:Bool),v15=.bool x15_2∧Z0 (dasdlaw07_LabelDecodes.j0 kq a0 a1 x15_2=some r)∧Z0 (kq≤k)∧Z0 (Below w.heap.size w wc))
 case first =>
  have H:=HC3.out
  clear HC3
  replace H:=Option.bind_eq_some_iff.mp H
  obtain ⟨t1019,A40,H⟩:=H
  replace H:(if t1019=true then (dasdlaw07_LabelDecodes.j0 k a0 a1 (decide ((a0.size:Int) > 1100))) else (dasdlaw07_LabelDecodes.j0 k a0 a1 true))=some r:=H
  have A4:=Z0.mk A40
  clear A40
  by_cases c5 : t1019=true
  ·subst c5
   have H1:(dasdlaw07_LabelDecodes.j0 k a0 a1 (decide ((a0.size:Int) > 1100)))=some r:=by rw [if_pos rfl] at H;exact H
   clear H
   have H:=H1
   clear H1
   have H':=Z0.mk H
   clear H
   go_wp2_with (first|((with_reducible refine gate_callee (f:=43) rfl ?_);refine goesL_ (some 9) rfl rfl Try.func43 (by kernel_rfl) rfl #[] rfl (by (try simp only [List.map_toArray,List.map_cons,List.map_nil]);first|done|rfl|(simp only [List.length_drop,List.length_take];rfl)) ?_;(with_reducible refine (dasdlaw07_awake.calls k  true _ A4.out).mono ?_);rintro e w6 ⟨rfl,hb⟩;refine ⟨_,rfl,?_⟩;have n0_:=Z0.mk (below_step (by repeat (first|(with_reducible first|exact HB.out|apply zbA|apply zbN|apply zb1)|exact HB.out)) hb);clear HB;have HB:=n0_;clear n0_;(try clear hb);(try clear hb2);(try clear hk);(try clear hi)))
   go_meet
   case rel=>exact ⟨_,(decide ((a0.size:Int) > 1100)),(by first|rfl|(simp;done)|(simp [*];done)),H',⟨by first|omega|exact Nat.le_refl _⟩,⟨by repeat (first|(with_reducible first|exact HB.out|apply zbA|apply zbN|apply zb1)|exact HB.out)⟩⟩
  replace c5:=Bool.eq_false_iff.mpr c5
  subst c5
  have H1:(dasdlaw07_LabelDecodes.j0 k a0 a1 true)=some r:=by rw [if_neg (show ¬ (false=true) by decide)] at H;exact H
  clear H
  have H:=H1
  clear H1
  have H':=Z0.mk H
  clear H
  go_wp2_with (first|((with_reducible refine gate_callee (f:=43) rfl ?_);refine goesL_ (some 9) rfl rfl Try.func43 (by kernel_rfl) rfl #[] rfl (by (try simp only [List.map_toArray,List.map_cons,List.map_nil]);first|done|rfl|(simp only [List.length_drop,List.length_take];rfl)) ?_;(with_reducible refine (dasdlaw07_awake.calls k  false _ A4.out).mono ?_);rintro e w7 ⟨rfl,hb⟩;refine ⟨_,rfl,?_⟩;have n0_:=Z0.mk (below_step (by repeat (first|(with_reducible first|exact HB.out|apply zbA|apply zbN|apply zb1)|exact HB.out)) hb);clear HB;have HB:=n0_;clear n0_;(try clear hb);(try clear hb2);(try clear hk);(try clear hi)))
  go_meet
  case rel=>exact ⟨_,(true),(by first|rfl|(simp;done)|(simp [*];done)),H',⟨by first|omega|exact Nat.le_refl _⟩,⟨by repeat (first|(with_reducible first|exact HB.out|apply zbA|apply zbN|apply zb1)|exact HB.out)⟩⟩
 case rest =>
  clear HC3
  try clear c2
  try clear p2
  try clear c4
  try clear c5
  obtain ⟨kq,x15_2,rfl,HA,HJ2,HB⟩:=hcut
  cases kq with
  | zero=>exact absurd HA.out (by simp [dasdlaw07_LabelDecodes.j0])
  | succ kj2 =>
   have H:=HA.out
   clear HA
   simp only [dasdlaw07_LabelDecodes.j0] at H
   by_cases c8 : x15_2=true
   ·subst c8
    have H1:((dasdlaw07_awake.f kj2).bind fun t1020=>(some t1020))=some r:=by rw [if_pos rfl] at H;exact H
    clear H
    have H:=H1
    clear H1
    replace H:=Option.bind_eq_some_iff.mp H
    obtain ⟨t1020,A90,H⟩:=H
    replace H:(some t1020)=some r:=H
    have A9:=Z0.mk A90
    clear A90
    obtain rfl:=Option.some.inj H
    go_wp2_with (first|((with_reducible refine gate_callee (f:=43) rfl ?_);refine goesL_ (some 16) rfl rfl Try.func43 (by kernel_rfl) rfl #[] rfl (by (try simp only [List.map_toArray,List.map_cons,List.map_nil]);first|done|rfl|(simp only [List.length_drop,List.length_take];rfl)) ?_;(with_reducible refine (dasdlaw07_awake.calls kj2  t1020 _ A9.out).mono ?_);rintro e w10 ⟨rfl,hb⟩;refine ⟨_,rfl,?_⟩;have n0_:=Z0.mk (below_step (by repeat (first|(with_reducible first|exact HB.out|apply zbA|apply zbN|apply zb1)|exact HB.out)) hb);clear HB;have HB:=n0_;clear n0_;(try clear hb);(try clear hb2);(try clear hk);(try clear hi)))
    go_ret
    exact ⟨by first|rfl|(simp [errW_none,errW_some] <;> rfl)|(simp [*,errW_none,errW_some] <;> rfl),by repeat (first|(with_reducible first|exact HB.out|apply zbA|apply zbN|apply zb1)|exact HB.out)⟩
   replace c8:=Bool.eq_false_iff.mpr c8
   subst c8
   have H1:((label_Decode.f kj2 a0 a1).bind fun bt1021=>((q7Decode.f kj2 a0 a1).bind fun bt1030=>(if bt1021.2.2.2.2.2=bt1030.2.2.2.2.2 then ((q7Equal.f kj2 bt1021.1 bt1021.2.1 bt1021.2.2.1 bt1021.2.2.2.1 bt1021.2.2.2.2.1 bt1030.1 bt1030.2.1 bt1030.2.2.1 bt1030.2.2.2.1 bt1030.2.2.2.2.1).bind fun t1039=>(some t1039)) else (some false))))=some r:=by rw [if_neg (show ¬ (false=true) by decide)] at H;exact H
   clear H
   have H:=H1
   clear H1
   replace H:=Option.bind_eq_some_iff.mp H
   obtain ⟨⟨t1021,t1022,t1023,t1024,t1025,t1028⟩,A110,H⟩:=H
   replace H:((q7Decode.f kj2 a0 a1).bind fun bt1030=>(if t1028=bt1030.2.2.2.2.2 then ((q7Equal.f kj2 t1021 t1022 t1023 t1024 t1025 bt1030.1 bt1030.2.1 bt1030.2.2.1 bt1030.2.2.2.1 bt1030.2.2.2.2.1).bind fun t1039=>(some t1039)) else (some false)))=some r:=H
   have A11:=Z0.mk A110
   clear A110
   replace H:=Option.bind_eq_some_iff.mp H
   obtain ⟨⟨t1030,t1031,t1032,t1033,t1034,t1037⟩,A120,H⟩:=H
   replace H:(if t1028=t1037 then ((q7Equal.f kj2 t1021 t1022 t1023 t1024 t1025 t1030 t1031 t1032 t1033 t1034).bind fun t1039=>(some t1039)) else (some false))=some r:=H
   have A12:=Z0.mk A120
   clear A120
   by_cases c13 : t1028=t1037
   ·rw [if_pos c13] at H
    have c13b0:(t1028 == t1037)=true:=beq_iff_eq.mpr c13
    have c13b1:(t1028 != t1037)=false:=bne_eq_false_iff_eq.mpr c13
    clear c13
    replace H:=Option.bind_eq_some_iff.mp H
    obtain ⟨t1039,A140,H⟩:=H
    replace H:(some t1039)=some r:=H
    have A14:=Z0.mk A140
    clear A140
    obtain rfl:=Option.some.inj H
    go_wp2_with (first|((with_reducible refine gate_callee (f:=58) rfl ?_);refine goesL_ (some 20) rfl rfl Try.func58 (by kernel_rfl) rfl #[.string a0,.int .i64 a1] rfl (by (try simp only [List.map_toArray,List.map_cons,List.map_nil]);first|done|rfl|(simp only [List.length_drop,List.length_take];rfl)) ?_;(with_reducible refine (label_Decode.calls kj2 a0 a1 t1021 t1022 t1023 t1024 t1025 t1028 _ A11.out).mono ?_);rintro e w15 ⟨v1026,rfl,ho0,hb⟩;refine ⟨_,rfl,?_⟩;have n0_:=Z0.mk (Kd.R_lower ho0 (below_size (by repeat (first|(with_reducible first|exact HB.out|apply zbA|apply zbN|apply zb1)|exact HB.out))));have n1_:=Z0.mk (below_step (by repeat (first|(with_reducible first|exact HB.out|apply zbA|apply zbN|apply zb1)|exact HB.out)) hb);clear HB;have HO1027:=n0_;have HB:=n1_;clear n0_ n1_;(try clear hb);(try clear hb2);(try clear hk);(try clear hi);(try clear ho0))|((with_reducible refine gate_dst (N:=5) rfl ?_);(try (refine gate_guard (by rfl) ?_;dsimp only));refine box_event ?hg (N:=5) ?hd (cs:=#[.int .i64 0,.int .i64 0,.string (⟨#[]⟩:ByteArray),.string (⟨#[]⟩:ByteArray),.slice none 0 0]) (t:=55) ?hr ?_;(case hd=>rfl);(case hg=>rfl);(case hr=>first|(go_simp;done)|(go_simp;rfl));intro gb1029 hg w16 hbox hb;have n0_:=Z0.mk (Kd.R_below (by (with_reducible repeat (first|apply Kd.R_alloc|apply Kd.R_drewN|apply Kd.R_drew));exact HO1027.out) hb);have n1_:=Z0.mk (below_step (by repeat (first|(with_reducible first|exact HB.out|apply zbA|apply zbN|apply zb1)|exact HB.out)) hb);have n2_:=Z0.mk (hbox);have n3_:=Z0.mk ((by rw [hg];exact (below_size (by repeat (first|(with_reducible first|exact HB.out|apply zbA|apply zbN|apply zb1)|exact HB.out))) : w.heap.size≤gb1029));have n4_:=Z0.mk ((by rw [hg];exact (below_size (by repeat (first|(with_reducible first|exact HB.out|apply zbA|apply zbN|apply zb1)|exact HB.out))) : w.heap.size≤gb1029));clear HO1027;clear HB;have HO1027:=n0_;have HB:=n1_;have BK1029:=n2_;have GW1029:=n3_;have GE1029:=n4_;clear n0_ n1_ n2_ n3_ n4_;clear hb hbox hg;have hcz17_0 : w16.cell? ⟨gb1029,0,none⟩=some (.int .i64 0):=(zkC BK1029.out 0).trans rfl;have hcz17_1 : w16.cell? ⟨gb1029,1,none⟩=some (.int .i64 0):=(zkC BK1029.out 1).trans rfl;have hcz17_2 : w16.cell? ⟨gb1029,2,none⟩=some (.string (⟨#[]⟩:ByteArray)):=(zkC BK1029.out 2).trans rfl;have hcz17_3 : w16.cell? ⟨gb1029,3,none⟩=some (.string (⟨#[]⟩:ByteArray)):=(zkC BK1029.out 3).trans rfl;have hcz17_4 : w16.cell? ⟨gb1029,4,none⟩=some (.slice none 0 0):=(zkC BK1029.out 4).trans rfl;have hfz17_0:=zkF BK1029.out 0;have hfz17_1:=zkF BK1029.out 1;have hfz17_2:=zkF BK1029.out 2;have hfz17_3:=zkF BK1029.out 3;have hfz17_4:=zkF BK1029.out 4;obtain ⟨Ao18,co18,eo18⟩:=Kd.R_slice HO1027.out;subst eo18)|((with_reducible refine gate_callee (f:=92) rfl ?_);refine goesL_ (some 26) rfl rfl Try.func92 (by kernel_rfl) rfl #[.string a0,.int .i64 a1] rfl (by (try simp only [List.map_toArray,List.map_cons,List.map_nil]);first|done|rfl|(simp only [List.length_drop,List.length_take];rfl)) ?_;(with_reducible refine (q7Decode.calls kj2 a0 a1 t1030 t1031 t1032 t1033 t1034 t1037 _ A12.out).mono ?_);rintro e w19 ⟨v1035,rfl,ho0,hb⟩;refine ⟨_,rfl,?_⟩;have n0_:=Z0.mk (Kd.R_elder' (by (with_reducible repeat (first|apply Kd.R_alloc|apply Kd.R_drewN|apply Kd.R_drew));exact (Kd.R_mono (Kd.R_far (p:=⟨gb1029,4,none⟩) (Kd.R_far (p:=⟨gb1029,3,none⟩) (Kd.R_far (p:=⟨gb1029,2,none⟩) (Kd.R_far (p:=⟨gb1029,1,none⟩) (Kd.R_far (p:=⟨gb1029,0,none⟩) (Kd.R_types HO1027.out BK1029.out (by decide)) (fun _ hk=>hk.2) (.int .i64 t1021)) (fun _ hk=>hk.2) (.int .i64 t1022)) (fun _ hk=>hk.2) (.string t1023)) (fun _ hk=>hk.2) (.string t1024)) (fun _ hk=>hk.2) (.slice Ao18 t1025.length co18)) (fun _ h_=>h_.1))) (Kd.R_base ho0) hb);have n1_:=Z0.mk (Kd.R_lower (Kd.R_new' ho0 (Kd.R_lt (by (with_reducible repeat (first|apply Kd.R_alloc|apply Kd.R_drewN|apply Kd.R_drew));exact (Kd.R_mono (Kd.R_far (p:=⟨gb1029,4,none⟩) (Kd.R_far (p:=⟨gb1029,3,none⟩) (Kd.R_far (p:=⟨gb1029,2,none⟩) (Kd.R_far (p:=⟨gb1029,1,none⟩) (Kd.R_far (p:=⟨gb1029,0,none⟩) (Kd.R_types HO1027.out BK1029.out (by decide)) (fun _ hk=>hk.2) (.int .i64 t1021)) (fun _ hk=>hk.2) (.int .i64 t1022)) (fun _ hk=>hk.2) (.string t1023)) (fun _ hk=>hk.2) (.string t1024)) (fun _ hk=>hk.2) (.slice Ao18 t1025.length co18)) (fun _ h_=>h_.1))))) (below_size (by repeat (first|(with_reducible first|exact HB.out|apply zbA|apply zbN|apply zb1|refine zbS ?_ GE1029.out)|exact HB.out))));have n2_:=Z0.mk (blk_below (g:=gb1029) (o:=.cells #[.int .i64 t1021,.int .i64 t1022,.string t1023,.string t1024,.slice Ao18 t1025.length co18] 55 (0,0)) (by (with_reducible repeat (first|refine zkN ?_ _|refine zkD ?_|refine zkA ?_ _));refine blk_put (cs:=#[.int .i64 t1021,.int .i64 t1022,.string t1023,.string t1024,.slice none 0 0]) ?_ 4 _ rfl;(with_reducible repeat (first|refine zkN ?_ _|refine zkD ?_|refine zkA ?_ _));refine blk_put (cs:=#[.int .i64 t1021,.int .i64 t1022,.string t1023,.string (⟨#[]⟩:ByteArray),.slice none 0 0]) ?_ 3 _ rfl;(with_reducible repeat (first|refine zkN ?_ _|refine zkD ?_|refine zkA ?_ _));refine blk_put (cs:=#[.int .i64 t1021,.int .i64 t1022,.string (⟨#[]⟩:ByteArray),.string (⟨#[]⟩:ByteArray),.slice none 0 0]) ?_ 2 _ rfl;(with_reducible repeat (first|refine zkN ?_ _|refine zkD ?_|refine zkA ?_ _));refine blk_put (cs:=#[.int .i64 t1021,.int .i64 0,.string (⟨#[]⟩:ByteArray),.string (⟨#[]⟩:ByteArray),.slice none 0 0]) ?_ 1 _ rfl;(with_reducible repeat (first|refine zkN ?_ _|refine zkD ?_|refine zkA ?_ _));refine blk_put (cs:=#[.int .i64 0,.int .i64 0,.string (⟨#[]⟩:ByteArray),.string (⟨#[]⟩:ByteArray),.slice none 0 0]) ?_ 0 _ rfl;(with_reducible repeat (first|refine zkN ?_ _|refine zkD ?_|refine zkA ?_ _));exact BK1029.out) hb);have n3_:=Z0.mk (below_step (by repeat (first|(with_reducible first|exact HB.out|apply zbA|apply zbN|apply zb1|refine zbS ?_ GE1029.out)|exact HB.out)) hb);clear HO1027;clear BK1029;clear HB;have HO1027:=n0_;have HO1036:=n1_;have BK1029:=n2_;have HB:=n3_;clear n0_ n1_ n2_ n3_;(try clear hb);(try clear hb2);(try clear hk);(try clear hi);(try clear ho0))|((with_reducible refine gate_dst (N:=7) rfl ?_);(try (refine gate_guard (by rfl) ?_;dsimp only));refine box_event ?hg (N:=7) ?hd (cs:=#[.int .i64 0,.int .i64 0,.string (⟨#[]⟩:ByteArray),.string (⟨#[]⟩:ByteArray),.slice none 0 0]) (t:=55) ?hr ?_;(case hd=>rfl);(case hg=>rfl);(case hr=>first|(go_simp;done)|(go_simp;rfl));intro gb1038 hg w20 hbox hb;have n0_:=Z0.mk (Kd.R_below (by (with_reducible repeat (first|apply Kd.R_alloc|apply Kd.R_drewN|apply Kd.R_drew));exact HO1027.out) hb);have n1_:=Z0.mk (Kd.R_below (by (with_reducible repeat (first|apply Kd.R_alloc|apply Kd.R_drewN|apply Kd.R_drew));exact HO1036.out) hb);have n2_:=Z0.mk (blk_below (g:=gb1029) (o:=.cells #[.int .i64 t1021,.int .i64 t1022,.string t1023,.string t1024,.slice Ao18 t1025.length co18] 55 (0,0)) (by (with_reducible repeat (first|refine zkN ?_ _|refine zkD ?_|refine zkA ?_ _));exact BK1029.out) hb);have n3_:=Z0.mk (below_step (by repeat (first|(with_reducible first|exact HB.out|apply zbA|apply zbN|apply zb1|refine zbS ?_ GE1029.out)|exact HB.out)) hb);have n4_:=Z0.mk (hbox);have n5_:=Z0.mk ((by rw [hg];exact (below_size (by repeat (first|(with_reducible first|exact HB.out|apply zbA|apply zbN|apply zb1|refine zbS ?_ GE1029.out)|exact HB.out))) : w.heap.size≤gb1038));have n6_:=Z0.mk ((by rw [hg];exact (below_size (by repeat (first|(with_reducible first|exact HB.out|apply zbA|apply zbN|apply zb1|refine zbS ?_ GE1029.out)|exact HB.out))) : w.heap.size≤gb1038));have n7_:=Z0.mk ((by rw [hg];exact Nat.ne_of_lt (blk_lt (g:=gb1029) (o:=.cells #[.int .i64 t1021,.int .i64 t1022,.string t1023,.string t1024,.slice Ao18 t1025.length co18] 55 (0,0)) (by (with_reducible repeat (first|refine zkN ?_ _|refine zkD ?_|refine zkA ?_ _));exact BK1029.out)) : gb1029 ≠ gb1038));have n8_:=Z0.mk ((by rw [hg];exact Nat.ne_of_gt (blk_lt (g:=gb1029) (o:=.cells #[.int .i64 t1021,.int .i64 t1022,.string t1023,.string t1024,.slice Ao18 t1025.length co18] 55 (0,0)) (by (with_reducible repeat (first|refine zkN ?_ _|refine zkD ?_|refine zkA ?_ _));exact BK1029.out)) : gb1038 ≠ gb1029));clear HO1027;clear HO1036;clear BK1029;clear HB;have HO1027:=n0_;have HO1036:=n1_;have BK1029:=n2_;have HB:=n3_;have BK1038:=n4_;have GW1038:=n5_;have GE1038:=n6_;have NB1029_1038:=n7_;have NB1038_1029:=n8_;clear n0_ n1_ n2_ n3_ n4_ n5_ n6_ n7_ n8_;clear hb hbox hg;have hnb21:=NB1038_1029.out;have hnc21:=NB1029_1038.out;have hcz22_0 : w20.cell? ⟨gb1038,0,none⟩=some (.int .i64 0):=(zkC BK1038.out 0).trans rfl;have hcz22_1 : w20.cell? ⟨gb1038,1,none⟩=some (.int .i64 0):=(zkC BK1038.out 1).trans rfl;have hcz22_2 : w20.cell? ⟨gb1038,2,none⟩=some (.string (⟨#[]⟩:ByteArray)):=(zkC BK1038.out 2).trans rfl;have hcz22_3 : w20.cell? ⟨gb1038,3,none⟩=some (.string (⟨#[]⟩:ByteArray)):=(zkC BK1038.out 3).trans rfl;have hcz22_4 : w20.cell? ⟨gb1038,4,none⟩=some (.slice none 0 0):=(zkC BK1038.out 4).trans rfl;have hfz22_0:=zkF BK1038.out 0;have hfz22_1:=zkF BK1038.out 1;have hfz22_2:=zkF BK1038.out 2;have hfz22_3:=zkF BK1038.out 3;have hfz22_4:=zkF BK1038.out 4;obtain ⟨Ao23,co23,eo23⟩:=Kd.R_slice HO1036.out;subst eo23;have hcz24_0 : w20.cell? ⟨gb1029,0,none⟩=some (.int .i64 t1021):=(zkC BK1029.out 0).trans rfl;have hcz24_1 : w20.cell? ⟨gb1029,1,none⟩=some (.int .i64 t1022):=(zkC BK1029.out 1).trans rfl;have hcz24_2 : w20.cell? ⟨gb1029,2,none⟩=some (.string t1023):=(zkC BK1029.out 2).trans rfl;have hcz24_3 : w20.cell? ⟨gb1029,3,none⟩=some (.string t1024):=(zkC BK1029.out 3).trans rfl;have hcz24_4 : w20.cell? ⟨gb1029,4,none⟩=some (.slice Ao18 t1025.length co18):=(zkC BK1029.out 4).trans rfl;have hfz24_0:=zkF BK1029.out 0;have hfz24_1:=zkF BK1029.out 1;have hfz24_2:=zkF BK1029.out 2;have hfz24_3:=zkF BK1029.out 3;have hfz24_4:=zkF BK1029.out 4)|(go_at_call 87;(with_reducible refine (q7Equal.calls kj2 t1021 t1022 t1023 t1024 _ _ t1025 t1030 t1031 t1032 t1033 _ _ t1034 t1039 _ ?side1 ?side2 ?side3 ?side4 A14.out).mono ?_);(case side1=>refine (Kd.R_reads' (e:=103) (base:=w.heap.size) (ok:=fun k_=>(True∧some k_ ≠ (.slice Ao23 t1034.length co23:Value).ownBlock)) (n:=t1025.length) (c:=co18) ?_).2.2;exact (by (with_reducible repeat (first|apply Kd.R_alloc|apply Kd.R_drewN|apply Kd.R_drew));exact (Kd.R_mono (Kd.R_far (p:=⟨gb1038,4,none⟩) (Kd.R_far (p:=⟨gb1038,3,none⟩) (Kd.R_far (p:=⟨gb1038,2,none⟩) (Kd.R_far (p:=⟨gb1038,1,none⟩) (Kd.R_far (p:=⟨gb1038,0,none⟩) (Kd.R_types HO1027.out BK1038.out (by decide)) (fun _ hk=>hk.2) (.int .i64 t1030)) (fun _ hk=>hk.2) (.int .i64 t1031)) (fun _ hk=>hk.2) (.string t1032)) (fun _ hk=>hk.2) (.string t1033)) (fun _ hk=>hk.2) (.slice Ao23 t1034.length co23)) (fun _ h_=>h_.1))));(case side2=>exact (Kd.R_reads' HO1027.out).2.1);(case side3=>refine (Kd.R_reads' (e:=103) (base:=w.heap.size) (ok:=fun k_=>(True∧some k_ ≠ (.slice Ao18 t1025.length co18:Value).ownBlock)) (n:=t1034.length) (c:=co23) ?_).2.2;exact (by (with_reducible repeat (first|apply Kd.R_alloc|apply Kd.R_drewN|apply Kd.R_drew));exact (Kd.R_mono (Kd.R_far (p:=⟨gb1038,4,none⟩) (Kd.R_far (p:=⟨gb1038,3,none⟩) (Kd.R_far (p:=⟨gb1038,2,none⟩) (Kd.R_far (p:=⟨gb1038,1,none⟩) (Kd.R_far (p:=⟨gb1038,0,none⟩) (Kd.R_types HO1036.out BK1038.out (by decide)) (fun _ hk=>hk.2) (.int .i64 t1030)) (fun _ hk=>hk.2) (.int .i64 t1031)) (fun _ hk=>hk.2) (.string t1032)) (fun _ hk=>hk.2) (.string t1033)) (fun _ hk=>hk.2) (.slice Ao23 t1034.length co23)) (fun _ h_=>h_.1))));(case side4=>exact (Kd.R_reads' HO1036.out).2.1);rintro e w25 ⟨rfl,hb⟩;have n0_:=Z0.mk (Kd.R_below (by (with_reducible repeat (first|apply Kd.R_alloc|apply Kd.R_drewN|apply Kd.R_drew));exact (Kd.R_mono (Kd.R_far (p:=⟨gb1038,4,none⟩) (Kd.R_far (p:=⟨gb1038,3,none⟩) (Kd.R_far (p:=⟨gb1038,2,none⟩) (Kd.R_far (p:=⟨gb1038,1,none⟩) (Kd.R_far (p:=⟨gb1038,0,none⟩) (Kd.R_types HO1027.out BK1038.out (by decide)) (fun _ hk=>hk.2) (.int .i64 t1030)) (fun _ hk=>hk.2) (.int .i64 t1031)) (fun _ hk=>hk.2) (.string t1032)) (fun _ hk=>hk.2) (.string t1033)) (fun _ hk=>hk.2) (.slice Ao23 t1034.length co23)) (fun _ h_=>h_.1))) hb);have n1_:=Z0.mk (Kd.R_below (by (with_reducible repeat (first|apply Kd.R_alloc|apply Kd.R_drewN|apply Kd.R_drew));exact (Kd.R_mono (Kd.R_far (p:=⟨gb1038,4,none⟩) (Kd.R_far (p:=⟨gb1038,3,none⟩) (Kd.R_far (p:=⟨gb1038,2,none⟩) (Kd.R_far (p:=⟨gb1038,1,none⟩) (Kd.R_far (p:=⟨gb1038,0,none⟩) (Kd.R_types HO1036.out BK1038.out (by decide)) (fun _ hk=>hk.2) (.int .i64 t1030)) (fun _ hk=>hk.2) (.int .i64 t1031)) (fun _ hk=>hk.2) (.string t1032)) (fun _ hk=>hk.2) (.string t1033)) (fun _ hk=>hk.2) (.slice Ao23 t1034.length co23)) (fun _ h_=>h_.1))) hb);have n2_:=Z0.mk (blk_below (g:=gb1029) (o:=.cells #[.int .i64 t1021,.int .i64 t1022,.string t1023,.string t1024,.slice Ao18 t1025.length co18] 55 (0,0)) (by (with_reducible repeat (first|refine zkN ?_ _|refine zkD ?_|refine zkA ?_ _));refine blk_far ?_ NB1029_1038.out _;(with_reducible repeat (first|refine zkN ?_ _|refine zkD ?_|refine zkA ?_ _));refine blk_far ?_ NB1029_1038.out _;(with_reducible repeat (first|refine zkN ?_ _|refine zkD ?_|refine zkA ?_ _));refine blk_far ?_ NB1029_1038.out _;(with_reducible repeat (first|refine zkN ?_ _|refine zkD ?_|refine zkA ?_ _));refine blk_far ?_ NB1029_1038.out _;(with_reducible repeat (first|refine zkN ?_ _|refine zkD ?_|refine zkA ?_ _));refine blk_far ?_ NB1029_1038.out _;(with_reducible repeat (first|refine zkN ?_ _|refine zkD ?_|refine zkA ?_ _));exact BK1029.out) hb);have n3_:=Z0.mk (blk_below (g:=gb1038) (o:=.cells #[.int .i64 t1030,.int .i64 t1031,.string t1032,.string t1033,.slice Ao23 t1034.length co23] 55 (0,0)) (by (with_reducible repeat (first|refine zkN ?_ _|refine zkD ?_|refine zkA ?_ _));refine blk_put (cs:=#[.int .i64 t1030,.int .i64 t1031,.string t1032,.string t1033,.slice none 0 0]) ?_ 4 _ rfl;(with_reducible repeat (first|refine zkN ?_ _|refine zkD ?_|refine zkA ?_ _));refine blk_put (cs:=#[.int .i64 t1030,.int .i64 t1031,.string t1032,.string (⟨#[]⟩:ByteArray),.slice none 0 0]) ?_ 3 _ rfl;(with_reducible repeat (first|refine zkN ?_ _|refine zkD ?_|refine zkA ?_ _));refine blk_put (cs:=#[.int .i64 t1030,.int .i64 t1031,.string (⟨#[]⟩:ByteArray),.string (⟨#[]⟩:ByteArray),.slice none 0 0]) ?_ 2 _ rfl;(with_reducible repeat (first|refine zkN ?_ _|refine zkD ?_|refine zkA ?_ _));refine blk_put (cs:=#[.int .i64 t1030,.int .i64 0,.string (⟨#[]⟩:ByteArray),.string (⟨#[]⟩:ByteArray),.slice none 0 0]) ?_ 1 _ rfl;(with_reducible repeat (first|refine zkN ?_ _|refine zkD ?_|refine zkA ?_ _));refine blk_put (cs:=#[.int .i64 0,.int .i64 0,.string (⟨#[]⟩:ByteArray),.string (⟨#[]⟩:ByteArray),.slice none 0 0]) ?_ 0 _ rfl;(with_reducible repeat (first|refine zkN ?_ _|refine zkD ?_|refine zkA ?_ _));exact BK1038.out) hb);have n4_:=Z0.mk (below_step (by repeat (first|(with_reducible first|exact HB.out|apply zbA|apply zbN|apply zb1|refine zbS ?_ GE1029.out|refine zbS ?_ GE1038.out)|exact HB.out)) hb);clear HO1027;clear HO1036;clear BK1029;clear BK1038;clear HB;have HO1027:=n0_;have HO1036:=n1_;have BK1029:=n2_;have BK1038:=n3_;have HB:=n4_;clear n0_ n1_ n2_ n3_ n4_;(try clear hb);(try clear hb2);(try clear hk);(try clear hi)))
    go_ret
    exact ⟨by first|rfl|(simp [errW_none,errW_some] <;> rfl)|(simp [*,errW_none,errW_some] <;> rfl),by repeat (first|(with_reducible first|exact HB.out|apply zbA|apply zbN|apply zb1|refine zbS ?_ GE1029.out|refine zbS ?_ GE1038.out)|exact HB.out)⟩
   rw [if_neg c13] at H
   have c13b0:(t1028 == t1037)=false:=beq_eq_false_iff_ne.mpr c13
   have c13b1:(t1028 != t1037)=true:=bne_iff_ne.mpr c13
   obtain rfl:=Option.some.inj H
   go_wp2_with (first|((with_reducible refine gate_callee (f:=58) rfl ?_);refine goesL_ (some 20) rfl rfl Try.func58 (by kernel_rfl) rfl #[.string a0,.int .i64 a1] rfl (by (try simp only [List.map_toArray,List.map_cons,List.map_nil]);first|done|rfl|(simp only [List.length_drop,List.length_take];rfl)) ?_;(with_reducible refine (label_Decode.calls kj2 a0 a1 t1021 t1022 t1023 t1024 t1025 t1028 _ A11.out).mono ?_);rintro e w26 ⟨v1026,rfl,ho0,hb⟩;refine ⟨_,rfl,?_⟩;have n0_:=Z0.mk (Kd.R_lower ho0 (below_size (by repeat (first|(with_reducible first|exact HB.out|apply zbA|apply zbN|apply zb1)|exact HB.out))));have n1_:=Z0.mk (below_step (by repeat (first|(with_reducible first|exact HB.out|apply zbA|apply zbN|apply zb1)|exact HB.out)) hb);clear HB;have HO1027:=n0_;have HB:=n1_;clear n0_ n1_;(try clear hb);(try clear hb2);(try clear hk);(try clear hi);(try clear ho0))|((with_reducible refine gate_dst (N:=5) rfl ?_);(try (refine gate_guard (by rfl) ?_;dsimp only));refine box_event ?hg (N:=5) ?hd (cs:=#[.int .i64 0,.int .i64 0,.string (⟨#[]⟩:ByteArray),.string (⟨#[]⟩:ByteArray),.slice none 0 0]) (t:=55) ?hr ?_;(case hd=>rfl);(case hg=>rfl);(case hr=>first|(go_simp;done)|(go_simp;rfl));intro gb1029 hg w27 hbox hb;have n0_:=Z0.mk (Kd.R_below (by (with_reducible repeat (first|apply Kd.R_alloc|apply Kd.R_drewN|apply Kd.R_drew));exact HO1027.out) hb);have n1_:=Z0.mk (below_step (by repeat (first|(with_reducible first|exact HB.out|apply zbA|apply zbN|apply zb1)|exact HB.out)) hb);have n2_:=Z0.mk (hbox);have n3_:=Z0.mk ((by rw [hg];exact (below_size (by repeat (first|(with_reducible first|exact HB.out|apply zbA|apply zbN|apply zb1)|exact HB.out))) : w.heap.size≤gb1029));have n4_:=Z0.mk ((by rw [hg];exact (below_size (by repeat (first|(with_reducible first|exact HB.out|apply zbA|apply zbN|apply zb1)|exact HB.out))) : w.heap.size≤gb1029));clear HO1027;clear HB;have HO1027:=n0_;have HB:=n1_;have BK1029:=n2_;have GW1029:=n3_;have GE1029:=n4_;clear n0_ n1_ n2_ n3_ n4_;clear hb hbox hg;have hcz28_0 : w27.cell? ⟨gb1029,0,none⟩=some (.int .i64 0):=(zkC BK1029.out 0).trans rfl;have hcz28_1 : w27.cell? ⟨gb1029,1,none⟩=some (.int .i64 0):=(zkC BK1029.out 1).trans rfl;have hcz28_2 : w27.cell? ⟨gb1029,2,none⟩=some (.string (⟨#[]⟩:ByteArray)):=(zkC BK1029.out 2).trans rfl;have hcz28_3 : w27.cell? ⟨gb1029,3,none⟩=some (.string (⟨#[]⟩:ByteArray)):=(zkC BK1029.out 3).trans rfl;have hcz28_4 : w27.cell? ⟨gb1029,4,none⟩=some (.slice none 0 0):=(zkC BK1029.out 4).trans rfl;have hfz28_0:=zkF BK1029.out 0;have hfz28_1:=zkF BK1029.out 1;have hfz28_2:=zkF BK1029.out 2;have hfz28_3:=zkF BK1029.out 3;have hfz28_4:=zkF BK1029.out 4;obtain ⟨Ao29,co29,eo29⟩:=Kd.R_slice HO1027.out;subst eo29)|((with_reducible refine gate_callee (f:=92) rfl ?_);refine goesL_ (some 26) rfl rfl Try.func92 (by kernel_rfl) rfl #[.string a0,.int .i64 a1] rfl (by (try simp only [List.map_toArray,List.map_cons,List.map_nil]);first|done|rfl|(simp only [List.length_drop,List.length_take];rfl)) ?_;(with_reducible refine (q7Decode.calls kj2 a0 a1 t1030 t1031 t1032 t1033 t1034 t1037 _ A12.out).mono ?_);rintro e w30 ⟨v1035,rfl,ho0,hb⟩;refine ⟨_,rfl,?_⟩;have n0_:=Z0.mk (Kd.R_elder' (by (with_reducible repeat (first|apply Kd.R_alloc|apply Kd.R_drewN|apply Kd.R_drew));exact (Kd.R_mono (Kd.R_far (p:=⟨gb1029,4,none⟩) (Kd.R_far (p:=⟨gb1029,3,none⟩) (Kd.R_far (p:=⟨gb1029,2,none⟩) (Kd.R_far (p:=⟨gb1029,1,none⟩) (Kd.R_far (p:=⟨gb1029,0,none⟩) (Kd.R_types HO1027.out BK1029.out (by decide)) (fun _ hk=>hk.2) (.int .i64 t1021)) (fun _ hk=>hk.2) (.int .i64 t1022)) (fun _ hk=>hk.2) (.string t1023)) (fun _ hk=>hk.2) (.string t1024)) (fun _ hk=>hk.2) (.slice Ao29 t1025.length co29)) (fun _ h_=>h_.1))) (Kd.R_base ho0) hb);have n1_:=Z0.mk (Kd.R_lower (Kd.R_new' ho0 (Kd.R_lt (by (with_reducible repeat (first|apply Kd.R_alloc|apply Kd.R_drewN|apply Kd.R_drew));exact (Kd.R_mono (Kd.R_far (p:=⟨gb1029,4,none⟩) (Kd.R_far (p:=⟨gb1029,3,none⟩) (Kd.R_far (p:=⟨gb1029,2,none⟩) (Kd.R_far (p:=⟨gb1029,1,none⟩) (Kd.R_far (p:=⟨gb1029,0,none⟩) (Kd.R_types HO1027.out BK1029.out (by decide)) (fun _ hk=>hk.2) (.int .i64 t1021)) (fun _ hk=>hk.2) (.int .i64 t1022)) (fun _ hk=>hk.2) (.string t1023)) (fun _ hk=>hk.2) (.string t1024)) (fun _ hk=>hk.2) (.slice Ao29 t1025.length co29)) (fun _ h_=>h_.1))))) (below_size (by repeat (first|(with_reducible first|exact HB.out|apply zbA|apply zbN|apply zb1|refine zbS ?_ GE1029.out)|exact HB.out))));have n2_:=Z0.mk (blk_below (g:=gb1029) (o:=.cells #[.int .i64 t1021,.int .i64 t1022,.string t1023,.string t1024,.slice Ao29 t1025.length co29] 55 (0,0)) (by (with_reducible repeat (first|refine zkN ?_ _|refine zkD ?_|refine zkA ?_ _));refine blk_put (cs:=#[.int .i64 t1021,.int .i64 t1022,.string t1023,.string t1024,.slice none 0 0]) ?_ 4 _ rfl;(with_reducible repeat (first|refine zkN ?_ _|refine zkD ?_|refine zkA ?_ _));refine blk_put (cs:=#[.int .i64 t1021,.int .i64 t1022,.string t1023,.string (⟨#[]⟩:ByteArray),.slice none 0 0]) ?_ 3 _ rfl;(with_reducible repeat (first|refine zkN ?_ _|refine zkD ?_|refine zkA ?_ _));refine blk_put (cs:=#[.int .i64 t1021,.int .i64 t1022,.string (⟨#[]⟩:ByteArray),.string (⟨#[]⟩:ByteArray),.slice none 0 0]) ?_ 2 _ rfl;(with_reducible repeat (first|refine zkN ?_ _|refine zkD ?_|refine zkA ?_ _));refine blk_put (cs:=#[.int .i64 t1021,.int .i64 0,.string (⟨#[]⟩:ByteArray),.string (⟨#[]⟩:ByteArray),.slice none 0 0]) ?_ 1 _ rfl;(with_reducible repeat (first|refine zkN ?_ _|refine zkD ?_|refine zkA ?_ _));refine blk_put (cs:=#[.int .i64 0,.int .i64 0,.string (⟨#[]⟩:ByteArray),.string (⟨#[]⟩:ByteArray),.slice none 0 0]) ?_ 0 _ rfl;(with_reducible repeat (first|refine zkN ?_ _|refine zkD ?_|refine zkA ?_ _));exact BK1029.out) hb);have n3_:=Z0.mk (below_step (by repeat (first|(with_reducible first|exact HB.out|apply zbA|apply zbN|apply zb1|refine zbS ?_ GE1029.out)|exact HB.out)) hb);clear HO1027;clear BK1029;clear HB;have HO1027:=n0_;have HO1036:=n1_;have BK1029:=n2_;have HB:=n3_;clear n0_ n1_ n2_ n3_;(try clear hb);(try clear hb2);(try clear hk);(try clear hi);(try clear ho0))|((with_reducible refine gate_dst (N:=7) rfl ?_);(try (refine gate_guard (by rfl) ?_;dsimp only));refine box_event ?hg (N:=7) ?hd (cs:=#[.int .i64 0,.int .i64 0,.string (⟨#[]⟩:ByteArray),.string (⟨#[]⟩:ByteArray),.slice none 0 0]) (t:=55) ?hr ?_;(case hd=>rfl);(case hg=>rfl);(case hr=>first|(go_simp;done)|(go_simp;rfl));intro gb1038 hg w31 hbox hb;have n0_:=Z0.mk (Kd.R_below (by (with_reducible repeat (first|apply Kd.R_alloc|apply Kd.R_drewN|apply Kd.R_drew));exact HO1027.out) hb);have n1_:=Z0.mk (Kd.R_below (by (with_reducible repeat (first|apply Kd.R_alloc|apply Kd.R_drewN|apply Kd.R_drew));exact HO1036.out) hb);have n2_:=Z0.mk (blk_below (g:=gb1029) (o:=.cells #[.int .i64 t1021,.int .i64 t1022,.string t1023,.string t1024,.slice Ao29 t1025.length co29] 55 (0,0)) (by (with_reducible repeat (first|refine zkN ?_ _|refine zkD ?_|refine zkA ?_ _));exact BK1029.out) hb);have n3_:=Z0.mk (below_step (by repeat (first|(with_reducible first|exact HB.out|apply zbA|apply zbN|apply zb1|refine zbS ?_ GE1029.out)|exact HB.out)) hb);have n4_:=Z0.mk (hbox);have n5_:=Z0.mk ((by rw [hg];exact (below_size (by repeat (first|(with_reducible first|exact HB.out|apply zbA|apply zbN|apply zb1|refine zbS ?_ GE1029.out)|exact HB.out))) : w.heap.size≤gb1038));have n6_:=Z0.mk ((by rw [hg];exact (below_size (by repeat (first|(with_reducible first|exact HB.out|apply zbA|apply zbN|apply zb1|refine zbS ?_ GE1029.out)|exact HB.out))) : w.heap.size≤gb1038));have n7_:=Z0.mk ((by rw [hg];exact Nat.ne_of_lt (blk_lt (g:=gb1029) (o:=.cells #[.int .i64 t1021,.int .i64 t1022,.string t1023,.string t1024,.slice Ao29 t1025.length co29] 55 (0,0)) (by (with_reducible repeat (first|refine zkN ?_ _|refine zkD ?_|refine zkA ?_ _));exact BK1029.out)) : gb1029 ≠ gb1038));have n8_:=Z0.mk ((by rw [hg];exact Nat.ne_of_gt (blk_lt (g:=gb1029) (o:=.cells #[.int .i64 t1021,.int .i64 t1022,.string t1023,.string t1024,.slice Ao29 t1025.length co29] 55 (0,0)) (by (with_reducible repeat (first|refine zkN ?_ _|refine zkD ?_|refine zkA ?_ _));exact BK1029.out)) : gb1038 ≠ gb1029));clear HO1027;clear HO1036;clear BK1029;clear HB;have HO1027:=n0_;have HO1036:=n1_;have BK1029:=n2_;have HB:=n3_;have BK1038:=n4_;have GW1038:=n5_;have GE1038:=n6_;have NB1029_1038:=n7_;have NB1038_1029:=n8_;clear n0_ n1_ n2_ n3_ n4_ n5_ n6_ n7_ n8_;clear hb hbox hg;have hnb32:=NB1038_1029.out;have hnc32:=NB1029_1038.out;have hcz33_0 : w31.cell? ⟨gb1038,0,none⟩=some (.int .i64 0):=(zkC BK1038.out 0).trans rfl;have hcz33_1 : w31.cell? ⟨gb1038,1,none⟩=some (.int .i64 0):=(zkC BK1038.out 1).trans rfl;have hcz33_2 : w31.cell? ⟨gb1038,2,none⟩=some (.string (⟨#[]⟩:ByteArray)):=(zkC BK1038.out 2).trans rfl;have hcz33_3 : w31.cell? ⟨gb1038,3,none⟩=some (.string (⟨#[]⟩:ByteArray)):=(zkC BK1038.out 3).trans rfl;have hcz33_4 : w31.cell? ⟨gb1038,4,none⟩=some (.slice none 0 0):=(zkC BK1038.out 4).trans rfl;have hfz33_0:=zkF BK1038.out 0;have hfz33_1:=zkF BK1038.out 1;have hfz33_2:=zkF BK1038.out 2;have hfz33_3:=zkF BK1038.out 3;have hfz33_4:=zkF BK1038.out 4;obtain ⟨Ao34,co34,eo34⟩:=Kd.R_slice HO1036.out;subst eo34))
   go_ret
   exact ⟨by first|rfl|(simp [errW_none,errW_some] <;> rfl)|(simp [*,errW_none,errW_some] <;> rfl),by repeat (first|(with_reducible first|exact HB.out|apply zbA|apply zbN|apply zb1|refine zbS ?_ GE1029.out|refine zbS ?_ GE1038.out)|exact HB.out)⟩
def dasdlaw07_LabelDecodes.Pure:Prop:=∀ (a0:ByteArray) (a1:Int),a0.size≤140737488351232→(Lit.int .i64 a1).wf=true→∃ k,dasdlaw07_LabelDecodes.f k a0 a1=some true
theorem dasdlaw07_LabelDecodes.walk (P : dasdlaw07_LabelDecodes.Pure) (a0:ByteArray) (a1:Int) (w:World) (w0 : a0.size≤140737488351232) (w1:(Lit.int .i64 a1).wf=true) :
  Calls Try.prog 23 #[.string a0,.int .i64 a1] w fun e w'=>e=.returned (.bool true)∧Below w.heap.size w w':=by
 obtain ⟨k,h⟩:=P a0 a1 w0 w1
 refine (dasdlaw07_LabelDecodes.calls k a0 a1 true w h).mono ?_
 rintro e w' ⟨rfl,hd⟩
 exact ⟨rfl,hd⟩
end Go.Proofs.Ytegefemkmdlmaaa.P
