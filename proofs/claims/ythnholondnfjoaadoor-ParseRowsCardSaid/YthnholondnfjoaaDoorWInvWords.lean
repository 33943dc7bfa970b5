
import Derived.Test.YthnholondnfjoaaDoorWInv
import Derived.Test.YthnholondnfjoaaDoorWFootNe
namespace Go.Proofs.YthnholondnfjoaaDoorW.PrintWords
open Go.RowKit
end Go.Proofs.YthnholondnfjoaaDoorW.PrintWords
namespace Go.Proofs.YthnholondnfjoaaDoorW.PrintLast
section
variable {ops : Array Oper} {a : Act} {o og : Oper} {g : Nat} {t : Tmp} {u : Bool}
end
end Go.Proofs.YthnholondnfjoaaDoorW.PrintLast
