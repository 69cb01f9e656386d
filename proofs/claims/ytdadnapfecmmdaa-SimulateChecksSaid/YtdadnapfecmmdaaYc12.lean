/- Own texts of a proof about layer 55's simulate (merged): Mc. -/
import Derived.Test.YtdadnapfecmmdaaYc11
import Derived.Test.YtdadnapfecmmdaaYc2
namespace Go.Proofs.Ytdadnapfecmmdaa.P
set_option linter.unusedVariables false
set_option linter.unusedSimpArgs false
open Go.RowKit Go.Proofs.YtdadnapfecmmdaaW.PrintWords Go.Proofs.YtdadnapfecmmdaaW.PrintLast Go.Proofs.YtdadnapfecmmdaaW.PrintMore
open Go.Proofs.Ytdadnapfecmmdaa.Hm
end Go.Proofs.Ytdadnapfecmmdaa.P
