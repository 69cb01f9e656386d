/- The known answer of layer 55: the example's traces. -/
import Derived.Test.YtdadnapfecmmdaaHy
import Derived.Test.YtdadnapfecmmdaaPF32
namespace Go.Proofs.Ytdadnapfecmmdaa.P
set_option linter.unusedVariables false
set_option linter.unusedSimpArgs false
open Go.RowKit Go.Proofs.YtdadnapfecmmdaaW.PrintWords Go.Proofs.YtdadnapfecmmdaaW.PrintLast Go.Proofs.YtdadnapfecmmdaaW.PrintMore
open Go.Proofs.Ytdadnapfecmmdaa.Hm
def exC : Cfg := ⟨0, [⟨⟨#[119, 101, 98]⟩, 1, 10, 0, 0, [⟨#[100, 98]⟩]⟩, ⟨⟨#[100, 98]⟩, 2, 4, 0, 0, []⟩], [⟨1, 5⟩, ⟨2, 0⟩], [], [], 3, 4, 1, 0, 2, 0, 0⟩
def exT : List Tr := [⟨3145729, [⟨3145729, 1, 0, 0, 1, 3, ⟨#[119, 101, 98]⟩, ⟨#[]⟩, strServe, 3005, 3019, false⟩, ⟨3145729, 2, 1, 0, 1, 2, ⟨#[119, 101, 98]⟩, ⟨#[]⟩, strCall, 3010, 3014, false⟩, ⟨3145729, 3, 2, 0, 2, 3, ⟨#[100, 98]⟩, ⟨#[]⟩, strServe, 3005, 3009, false⟩]⟩]
theorem ex_check : ckAll 20 exC = some 0 := by kernel_rfl
theorem ex_traces : tracesV 20 exC (shiftSp exC.off) = some exT := by kernel_rfl
end Go.Proofs.Ytdadnapfecmmdaa.P
