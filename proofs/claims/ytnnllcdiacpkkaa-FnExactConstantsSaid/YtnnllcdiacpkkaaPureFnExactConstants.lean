/- The law FnExactConstants holds: its function returns true; no condition. -/
import Derived.Test.YtnnllcdiacpkkaaPFnExactConstantsx1
namespace Go.Proofs.Ytnnllcdiacpkkaa.Pure
open Go.RowKit Go.Proofs.Ytnnllcdiacpkkaa.PFnExactConstants Go.Proofs.YtnnllcdiacpkkaaW.PrintWords Go.Proofs.YtnnllcdiacpkkaaW.PrintLast

theorem FnExactConstants : laws_FnExactConstants.Pure := rfl

end Go.Proofs.Ytnnllcdiacpkkaa.Pure
