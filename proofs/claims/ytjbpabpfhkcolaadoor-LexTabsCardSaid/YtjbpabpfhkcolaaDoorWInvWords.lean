
import Derived.Test.YtjbpabpfhkcolaaDoorWInv
import Derived.Test.YtjbpabpfhkcolaaDoorWFootNe
namespace Go.Proofs.YtjbpabpfhkcolaaDoorW.PrintWords
open Go.RowKit
end Go.Proofs.YtjbpabpfhkcolaaDoorW.PrintWords
namespace Go.Proofs.YtjbpabpfhkcolaaDoorW.PrintLast
section
variable {ops : Array Oper} {a : Act} {o og : Oper} {g : Nat} {t : Tmp} {u : Bool}
end
end Go.Proofs.YtjbpabpfhkcolaaDoorW.PrintLast
