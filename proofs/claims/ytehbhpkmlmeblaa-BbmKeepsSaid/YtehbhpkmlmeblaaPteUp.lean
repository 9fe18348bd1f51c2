/- The head of layer 2's statements is true. -/
import Derived.Test.YtehbhpkmlmeblaaPteRef
namespace Go.Proofs.Ytehbhpkmlmeblaa.PteLib
open Go.RowKit Go.Proofs.YtehbhpkmlmeblaaW.PrintWords Go.Proofs.YtehbhpkmlmeblaaW.PrintLast Go.Proofs.YtehbhpkmlmeblaaW.PrintMore Go.Proofs.Ytehbhpkmlmeblaa.Bits Go.Proofs.Ytehbhpkmlmeblaa.Ref01 Go.Proofs.Ytehbhpkmlmeblaa.Q
set_option linter.unusedVariables false
set_option linter.unusedSimpArgs false

end Go.Proofs.Ytehbhpkmlmeblaa.PteLib
