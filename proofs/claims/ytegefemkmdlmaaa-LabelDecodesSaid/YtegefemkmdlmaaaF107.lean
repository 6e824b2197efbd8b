import Derived.Test.YtegefemkmdlmaaaF0
namespace Go.Proofs.Ytegefemkmdlmaaa.P
open Go.RowKit Go.Proofs.YtegefemkmdlmaaaW.PrintWords Go.Proofs.YtegefemkmdlmaaaW.PrintLast Go.Proofs.YtegefemkmdlmaaaW.PrintMore
attribute [local go_sem] max2_int min2_int max_two min_two max_three min_three max_four min_four
set_option linter.unusedVariables false
set_option linter.unusedSimpArgs false
def q1fail.f (a0:Int):Option (ByteArray×Int):=some ((⟨#[]⟩:ByteArray),a0)
set_option maxHeartbeats 8000000 in
set_option maxRecDepth 100000 in
theorem q1fail.calls (a0:Int) (r1:ByteArray) (r2:Int) (w:World) (h : q1fail.f a0=some (r1,r2)) :
  Calls Try.prog 107 #[.int .i64 a0] w fun e w'=>e=.returned (.agg #[.string r1,.int .i64 r2])∧Below w.heap.size w w':=by
 have hu69:=Try.underlying69
 have HB:=Z0.mk (Below.refl w.heap.size w)
 have H:(some ((⟨#[]⟩:ByteArray),a0))=some (r1,r2):=h
 clear h
 simp only [Option.some.injEq,Prod.mk.injEq] at H
 obtain ⟨rfl,rfl⟩:=H
 go_enter Try.func107,Try.ntmps107
 go_wp2_with (first|((with_reducible refine gate_dst (N:=2) rfl ?_);refine box_event ?hg (N:=2) ?hd (cs:=#[.string (⟨#[]⟩:ByteArray),.int .i64 0]) (t:=69) ?hr ?_;(case hd=>rfl);(case hg=>rfl);(case hr=>first|(go_simp;done)|(go_simp;rfl));intro gb422 hg w2 hbox hb;have n0_:=Z0.mk (below_step (by repeat (first|(with_reducible first|exact HB.out|apply zbA|apply zbN|apply zb1)|exact HB.out)) hb);have n1_:=Z0.mk (hbox);have n2_:=Z0.mk ((by rw [hg];exact (below_size (by repeat (first|(with_reducible first|exact HB.out|apply zbA|apply zbN|apply zb1)|exact HB.out))) : w.heap.size≤gb422));have n3_:=Z0.mk ((by rw [hg];exact (below_size (by repeat (first|(with_reducible first|exact HB.out|apply zbA|apply zbN|apply zb1)|exact HB.out))) : w.heap.size≤gb422));clear HB;have HB:=n0_;have BK422:=n1_;have GW422:=n2_;have GE422:=n3_;clear n0_ n1_ n2_ n3_;clear hb hbox hg;have hcz3_0 : w2.cell? ⟨gb422,0,none⟩=some (.string (⟨#[]⟩:ByteArray)):=(zkC BK422.out 0).trans rfl;have hcz3_1 : w2.cell? ⟨gb422,1,none⟩=some (.int .i64 0):=(zkC BK422.out 1).trans rfl;have hfz3_0:=zkF BK422.out 0;have hfz3_1:=zkF BK422.out 1))
 refine bodyPost_ret (results_cell_row rfl _ _ gb422 69 #[.string (⟨#[]⟩:ByteArray),.int .i64 a0] (0,0) _ rfl (by (with_reducible repeat (first|refine zkN ?_ _|refine zkD ?_|refine zkA ?_ _));refine blk_put (cs:=#[.string (⟨#[]⟩:ByteArray),.int .i64 0]) ?_ 1 _ rfl;(with_reducible repeat (first|refine zkN ?_ _|refine zkD ?_|refine zkA ?_ _));refine blk_put (cs:=#[.string (⟨#[]⟩:ByteArray),.int .i64 0]) ?_ 0 _ rfl;(with_reducible repeat (first|refine zkN ?_ _|refine zkD ?_|refine zkA ?_ _));exact BK422.out) Try.underlying69 rfl (by kernel_rfl)) rfl ?_
 exact ⟨by first|rfl|(simp [errW_none,errW_some] <;> rfl)|(simp [*,errW_none,errW_some] <;> rfl),by repeat (first|(with_reducible first|exact HB.out|apply zbA|apply zbN|apply zb1|refine zbS ?_ GE422.out)|exact HB.out)⟩
end Go.Proofs.Ytegefemkmdlmaaa.P
