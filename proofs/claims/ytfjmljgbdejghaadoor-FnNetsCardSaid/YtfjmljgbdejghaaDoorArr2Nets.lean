-- a text of this session, cut down for this claim
import Derived.Test.YtfjmljgbdejghaaDoorVNetsArr
namespace Go.Proofs.YtfjmljgbdejghaaDoor.Arr2
open Go Go.RowKit Go.Proofs.YtfjmljgbdejghaaDoor.Arr Go.Proofs.YtfjmljgbdejghaaDoorW.PrintWords
set_option linter.unusedVariables false
section
variable {P : Program} {o : Oper} {W : World}
end
end Go.Proofs.YtfjmljgbdejghaaDoor.Arr2
