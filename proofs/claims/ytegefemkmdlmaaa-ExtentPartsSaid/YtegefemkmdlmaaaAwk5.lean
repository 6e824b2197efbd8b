/- Plain laws: the example of chapter 5 holds. -/
import Derived.Test.YtegefemkmdlmaaaF34
namespace Go.Proofs.Ytegefemkmdlmaaa.P
open Go.RowKit Go.Proofs.YtegefemkmdlmaaaW.PrintWords Go.Proofs.YtegefemkmdlmaaaW.PrintLast Go.Proofs.YtegefemkmdlmaaaW.PrintMore
theorem awake5_at : dasdlaw05_awake.f 20 = some true := by decide +kernel
theorem awake5 : Ev (fun k => dasdlaw05_awake.f k) true := Ev.of dasdlaw05_awake.mono awake5_at
end Go.Proofs.Ytegefemkmdlmaaa.P
