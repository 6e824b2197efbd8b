/- Plain laws: the example of chapter 1 holds. -/
import Derived.Test.YtegefemkmdlmaaaF25
import Derived.Test.YtegefemkmdlmaaaDec
namespace Go.Proofs.Ytegefemkmdlmaaa.P
open Go.RowKit Go.Proofs.YtegefemkmdlmaaaW.PrintWords Go.Proofs.YtegefemkmdlmaaaW.PrintLast Go.Proofs.YtegefemkmdlmaaaW.PrintMore
theorem awake1_at : dasdlaw01_awake.f 1 = some true := by
  unfold dasdlaw01_awake.f dasdlaw01_awake.j0
  simp only [ByteArray.toList_eq]
  decide +kernel
theorem awake1 : Ev (fun k => dasdlaw01_awake.f k) true := Ev.of dasdlaw01_awake.mono awake1_at
end Go.Proofs.Ytegefemkmdlmaaa.P
