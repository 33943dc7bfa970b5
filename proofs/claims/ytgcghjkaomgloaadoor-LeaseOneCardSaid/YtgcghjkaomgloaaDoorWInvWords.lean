
import Derived.Test.YtgcghjkaomgloaaDoorWInv
import Derived.Test.YtgcghjkaomgloaaDoorWFootNe
namespace Go.Proofs.YtgcghjkaomgloaaDoorW.PrintWords
open Go.RowKit
end Go.Proofs.YtgcghjkaomgloaaDoorW.PrintWords
namespace Go.Proofs.YtgcghjkaomgloaaDoorW.PrintLast
section
variable {ops : Array Oper} {a : Act} {o og : Oper} {g : Nat} {t : Tmp} {u : Bool}
end
end Go.Proofs.YtgcghjkaomgloaaDoorW.PrintLast
