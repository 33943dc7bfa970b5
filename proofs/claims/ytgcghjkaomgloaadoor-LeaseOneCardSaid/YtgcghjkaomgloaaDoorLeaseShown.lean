/- The example at the head of the lease statements: it is computed. -/
import Derived.Test.YtgcghjkaomgloaaDoorPLeasex6
import Derived.Test.YtgcghjkaomgloaaDoorPLeasex2
import Derived.Test.YtgcghjkaomgloaaDoorRounds
import Derived.KernelRfl
namespace Go.Proofs.YtgcghjkaomgloaaDoor.Pl
open Go.RowKit Go.Proofs.YtgcghjkaomgloaaDoor.PLease Go.Proofs.YtgcghjkaomgloaaDoorW.PrintWords Go.Proofs.YtgcghjkaomgloaaDoorW.PrintLast
theorem shown_ev : ∃ K, ∀ k, K ≤ k → cooperagelaw16_shown.f k = some true :=
  Ev.of (fun k => cooperagelaw16_shown.mono k) (k := 12) (by kernel_rfl)
theorem path_ev (s : ByteArray) (k0 : Nat) (h : text_Path.f k0 s = some true) (k : Nat) (hk : k0 ≤ k) : text_Path.f k s = some true :=
  at_rounds (fun k => text_Path.mono s k) hk h
theorem path_n (k : Nat) (hk : 1000 ≤ k) : text_Path.f k ⟨#[110]⟩ = some true := path_ev _ 10 (by kernel_rfl) k (by omega)
theorem path_x (k : Nat) (hk : 1000 ≤ k) : text_Path.f k ⟨#[120]⟩ = some true := path_ev _ 10 (by kernel_rfl) k (by omega)
end Go.Proofs.YtgcghjkaomgloaaDoor.Pl
