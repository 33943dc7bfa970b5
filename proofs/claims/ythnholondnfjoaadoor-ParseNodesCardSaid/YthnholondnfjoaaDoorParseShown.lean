/- The chapter's example is as it says. -/
import Derived.Test.YthnholondnfjoaaDoorPParsex8
import Derived.KernelRfl
namespace Go.Proofs.YthnholondnfjoaaDoor.Pl
open Go.RowKit Go.Proofs.YthnholondnfjoaaDoor.PParse Go.Proofs.YthnholondnfjoaaDoorW.PrintWords Go.Proofs.YthnholondnfjoaaDoorW.PrintLast
theorem shown_ev : Ev (fun k => cooperagelaw9_shown.f k) true := Ev.of (fun k => cooperagelaw9_shown.mono k) (k := 40) (by kernel_rfl)
end Go.Proofs.YthnholondnfjoaaDoor.Pl
