/- FnExactConstants answers true: the law takes no argument and compares constants; no condition. -/
import Derived.Test.YtoncacdehhmpaaaPFnExactConstantsx1
namespace Go.Proofs.Ytoncacdehhmpaaa.Pure
open Go.RowKit Go.Proofs.Ytoncacdehhmpaaa.PFnExactConstants Go.Proofs.YtoncacdehhmpaaaW.PrintWords Go.Proofs.YtoncacdehhmpaaaW.PrintLast

/-- YOURS: laws_FnExactConstants.f  = some true
What it reaches (each with k first where it has rounds; `.mono`: more rounds tell the same; `.l0`, ..: its loops, with `.mono_l`): laws_FnExactConstants.f -/
theorem FnExactConstants : laws_FnExactConstants.Pure := by
  unfold laws_FnExactConstants.Pure
  rfl

end Go.Proofs.Ytoncacdehhmpaaa.Pure
