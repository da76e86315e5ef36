import Derived.Test.YtphndccgadblnaaWInv
import Derived.Test.YtphndccgadblnaaWFootNe
namespace Go.Proofs.YtphndccgadblnaaW.PrintWords
open Go.RowKit
end Go.Proofs.YtphndccgadblnaaW.PrintWords
namespace Go.Proofs.YtphndccgadblnaaW.PrintLast
section
variable {ops : Array Oper} {a : Act} {o og : Oper} {g : Nat} {t : Tmp} {u : Bool}
end
end Go.Proofs.YtphndccgadblnaaW.PrintLast
