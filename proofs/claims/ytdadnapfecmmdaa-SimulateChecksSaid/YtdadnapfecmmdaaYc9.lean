/- Own texts of a proof about layer 55's simulate (merged): Cb. -/
import Derived.Test.YtdadnapfecmmdaaYc2
import Derived.Test.YtdadnapfecmmdaaYc3
import Derived.Test.YtdadnapfecmmdaaYc8
import Derived.Deep.DeepMust
namespace Go.Proofs.Ytdadnapfecmmdaa.P
set_option linter.unusedVariables false
set_option linter.unusedSimpArgs false
open Go.RowKit Go.Proofs.YtdadnapfecmmdaaW.PrintWords Go.Proofs.YtdadnapfecmmdaaW.PrintLast Go.Proofs.YtdadnapfecmmdaaW.PrintMore
open Go.Proofs.Ytdadnapfecmmdaa.Hm
theorem add_block (ad : Addr) (n : Nat) : (ad.add n).block = ad.block := by
  unfold Addr.add
  split <;> rfl
section
variable {ops : Array Oper} {o : Oper} {a : Act} {Q : Exit → Act → World → Prop} {Kc : Act → World → Prop} {W : World}
end
end Go.Proofs.Ytdadnapfecmmdaa.P
