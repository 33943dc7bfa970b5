/-
  DERIVED. GIVEN WITH THE SEED: THE CARDS: each row of YtjdadmjomjhpcaaDoorRows.lean that lists a variable, with what it lists TIED to the program's text (the seventh form; the later family's looks); each row that meets fmt, with fmt's text TOLD by the authors' own Lean function (tested against real Go, not proved from fmt's source: count such statements apart). THE CARD IS WHAT COUNTS. Prove the row's statement (the work); the ties are given (YtjdadmjomjhpcaaDoorTie.lean); close each card by the builder's one call (the guide's Derived/Test/ToyasCard.lean, 'card_holds'). Laid BY PROGRAM, IN A SANDBOX (cutbox-door.mjs). By AI agents, Wed Nov 11 2026. No macro, syntax, notation, axiom, sorry.
-/
import Derived.Test.YtjdadmjomjhpcaaDoorRows
import GoSem.ClaimSeven
namespace Go.Proofs.YtjdadmjomjhpcaaDoor
namespace Rows

/-- THE TIED CARD OF 'cooperagelaw16.LeasePlays'. -/
def leasePlaysCard : Claim7 := { stood := { row := leasePlaysRow, standIns := [], harness := (true, "0a6530a503cf641fd172ef21e345139f95e371baab1e48e23750d7b0a58ac041"), looks := false }, kinds := [], alts := [], laidByText := true, laidKinds := [.data, .pinned], laidTests := true, laidLooks := .later }
def LeasePlaysCardSaid : Prop := Claim7.holds Tryd.pinned (.plain (OpenSpec.ofChange leasePlaysSpec)) leasePlaysCard

/-- THE SECOND FORM's CARD OF 'cooperagelaw16.LeasePlays'. -/
def leasePlaysUptoCard : Claim7 := { stood := { row := leasePlaysUptoRow, standIns := [], harness := (true, "0a6530a503cf641fd172ef21e345139f95e371baab1e48e23750d7b0a58ac041"), looks := false }, kinds := [], alts := [], laidByText := true, laidKinds := [.data, .pinned], laidTests := true, laidLooks := .later }
def LeasePlaysUptoCardSaid : Prop := Claim7.holds Tryd.pinned (.plain (OpenSpec.upto leasePlaysSpec)) leasePlaysUptoCard
end Rows
end Go.Proofs.YtjdadmjomjhpcaaDoor
