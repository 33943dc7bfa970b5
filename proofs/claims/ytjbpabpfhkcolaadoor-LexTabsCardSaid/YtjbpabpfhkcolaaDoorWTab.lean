
import Derived.Test.YtjbpabpfhkcolaaDoorWLast
import Derived.Test.YtjbpabpfhkcolaaDoorWWords
namespace Go.Proofs.YtjbpabpfhkcolaaDoorW.PrintLast
open Go.Proofs.YtjbpabpfhkcolaaDoorW.PrintWords (Aside0)
section
variable {md : Region.Mode} {ops : Array Oper} {T : Bool × List (List Nat × List Nat)} {l l' li lj lk : Array Bool} {ds : List Nat} {i j k : Nat}
end
end Go.Proofs.YtjbpabpfhkcolaaDoorW.PrintLast
