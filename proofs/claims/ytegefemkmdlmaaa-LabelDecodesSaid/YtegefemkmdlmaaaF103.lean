import Derived.Test.YtegefemkmdlmaaaF0
namespace Go.Proofs.Ytegefemkmdlmaaa.P
open Go.RowKit Go.Proofs.YtegefemkmdlmaaaW.PrintWords Go.Proofs.YtegefemkmdlmaaaW.PrintLast Go.Proofs.YtegefemkmdlmaaaW.PrintMore
attribute [local go_sem] max2_int min2_int max_two min_two max_three min_three max_four min_four
set_option linter.unusedVariables false
set_option linter.unusedSimpArgs false
def q1Padded.l0:Nat→ByteArray→Int→Option (ByteArray)
 | 0,_,_=>none
 | k + 1,x0,x1=>if (x0.size:Int) < x1 then (if x0.size + 1≤9223372036854775807 then (q1Padded.l0 k (x0++(⟨#[0]⟩:ByteArray)) x1) else (none)) else (some x0)
def q1Padded.f (k:Nat) (a0:ByteArray) (a1:Int):Option (ByteArray):=q1Padded.l0 k a0 a1
theorem q1Padded.mono_l:∀ k,(∀ y0 y1,LeO (q1Padded.l0 k y0 y1) (q1Padded.l0 (k + 1) y0 y1))
 | 0=>fun _ _ r h=>by simp [q1Padded.l0] at h
 | k + 1=>by
  have ih0:=q1Padded.mono_l k
  ·intro y0 y1
   unfold q1Padded.l0
   repeat' first
   | (with_reducible exact ih0 _ _)
   | (with_reducible exact LeO.refl _)
   | (with_reducible exact LeO.none _)
   | (with_reducible refine LeO.ite ?_ ?_)
   | (with_reducible refine LeO.bind ?_ (fun _=>?_))
   | exact ih0 _ _
   | exact LeO.none _
   | refine LeO.ite ?_ ?_
   | refine LeO.bind ?_ (fun _=>?_)
theorem q1Padded.mono:∀ a0 a1 k,LeO (q1Padded.f k a0 a1) (q1Padded.f (k + 1) a0 a1):=by
 intro a0 a1 k
 have ih0:=q1Padded.mono_l k
 unfold q1Padded.f
 repeat' first
   | (with_reducible exact ih0 _ _)
   | (with_reducible exact LeO.refl _)
   | (with_reducible exact LeO.none _)
   | (with_reducible refine LeO.ite ?_ ?_)
   | (with_reducible refine LeO.bind ?_ (fun _=>?_))
   | exact ih0 _ _
   | exact LeO.none _
   | refine LeO.ite ?_ ?_
   | refine LeO.bind ?_ (fun _=>?_)
set_option maxHeartbeats 8000000 in
set_option maxRecDepth 100000 in
theorem q1Padded.calls (k:Nat) (a0:ByteArray) (a1:Int) (r:ByteArray) (w:World) (h : q1Padded.f k a0 a1=some r) :
  Calls Try.prog 103 #[.string a0,.int .i64 a1] w fun e w'=>e=.returned (.string r)∧Drawn0 w w':=by
 have H:(q1Padded.l0 k a0 a1)=some r:=h
 clear h
 have H':=Z0.mk H
 clear H
 go_enter Try.func103,Try.ntmps103
 go_wp2
 go_loopg [0] k (fun kq v0 w'=>∃ (x0_1:ByteArray),v0=.string x0_1∧Z0 (q1Padded.l0 kq x0_1 a1=some r)∧Z0 (kq≤k)∧Drawn0 w w')
 case atStart=>exact ⟨(a0),(by first|rfl|(simp;done)|(simp [*];done)),H',⟨Nat.le_refl _⟩,by repeat (first|exact Drawn0.refl _|apply Drawn0.step)⟩
 case round =>
  clear H'
  try clear c1
  try clear p2
  obtain ⟨x0_1,rfl,HA,HK1,⟨m1,rfl⟩⟩:=hrel
  cases gk with
  | zero=>exact absurd HA.out (by simp [q1Padded.l0])
  | succ k1 =>
   have H:=HA.out
   clear HA
   simp only [q1Padded.l0] at H
   by_cases c3:(x0_1.size:Int) < a1
   ·rw [if_pos c3] at H
    have c3b0 : decide ((x0_1.size:Int) < a1)=true:=decide_eq_true c3
    clear c3
    by_cases c4 : x0_1.size + 1≤9223372036854775807
    ·rw [if_pos c4] at H
     have c4b0:=eq_true c4
     have c4b1 : decide (x0_1.size + 1≤9223372036854775807)=true:=decide_eq_true c4
     try have c4b2:(9223372036854775807 < x0_1.size + 1)=False:=eq_false (Nat.not_lt.2 c4)
     have H':=Z0.mk H
     clear H
     go_wp2
     go_roundg k1
     case measure=>have:=HK1.out;omega
     case rel=>exact ⟨(x0_1++(⟨#[0]⟩:ByteArray)),(by first|rfl|(simp;done)|(simp [*];done)),H',⟨by have:=HK1.out;omega⟩,by repeat (first|exact Drawn0.refl _|apply Drawn0.step)⟩
    rw [if_neg c4] at H
    exact absurd H (by simp)
   rw [if_neg c3] at H
   have c3b0 : decide ((x0_1.size:Int) < a1)=false:=decide_eq_false c3
   clear c3
   obtain rfl:=Option.some.inj H
   go_wp2
   go_ret
   exact ⟨by first|rfl|(simp;done)|(simp [*];done),by repeat (first|exact Drawn0.refl _|apply Drawn0.step)⟩
end Go.Proofs.Ytegefemkmdlmaaa.P
