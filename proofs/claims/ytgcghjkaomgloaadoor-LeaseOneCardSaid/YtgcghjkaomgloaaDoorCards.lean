/-
  DERIVED. GIVEN WITH THE SEED: THE CARDS: each row of YtgcghjkaomgloaaDoorRows.lean that lists a variable, with what it lists TIED to the program's text (the seventh form; the later family's looks); each row that meets fmt, with fmt's text TOLD by the authors' own Lean function (tested against real Go, not proved from fmt's source: count such statements apart). THE CARD IS WHAT COUNTS. Prove the row's statement (the work); the ties are given (YtgcghjkaomgloaaDoorTie.lean); close each card by the builder's one call (the guide's Derived/Test/ToyasCard.lean, 'card_holds'). Laid BY PROGRAM, IN A SANDBOX (cutbox-door.mjs). By AI agents, Wed Nov 11 2026. No macro, syntax, notation, axiom, sorry.
-/
import Derived.Test.YtgcghjkaomgloaaDoorRows
import GoSem.ClaimSeven
namespace Go.Proofs.YtgcghjkaomgloaaDoor
namespace Rows

/-- THE TIED CARD OF 'cooperagelaw16.LeaseTurn'. -/
def leaseTurnCard : Claim7 := { stood := { row := leaseTurnRow, standIns := [], harness := (true, "db7cc33e3fd29bbb427f575c6a04223a6fc11ad7dba05707f611888d71773eb8"), looks := false }, kinds := [], alts := [], laidByText := true, laidKinds := [.data, .pinned], laidTests := true, laidLooks := .later }
def LeaseTurnCardSaid : Prop := Claim7.holds Tryd.pinned (.plain (OpenSpec.ofChange leaseTurnSpec)) leaseTurnCard

/-- THE TIED CARD OF 'cooperagelaw16.LeaseReaders'. -/
def leaseReadersCard : Claim7 := { stood := { row := leaseReadersRow, standIns := [], harness := (true, "db7cc33e3fd29bbb427f575c6a04223a6fc11ad7dba05707f611888d71773eb8"), looks := false }, kinds := [], alts := [], laidByText := true, laidKinds := [.data, .pinned], laidTests := true, laidLooks := .later }
def LeaseReadersCardSaid : Prop := Claim7.holds Tryd.pinned (.plain (OpenSpec.ofChange leaseReadersSpec)) leaseReadersCard

/-- THE TIED CARD OF 'cooperagelaw16.LeasePlays'. -/
def leasePlaysCard : Claim7 := { stood := { row := leasePlaysRow, standIns := [], harness := (true, "db7cc33e3fd29bbb427f575c6a04223a6fc11ad7dba05707f611888d71773eb8"), looks := false }, kinds := [], alts := [], laidByText := true, laidKinds := [.data, .pinned], laidTests := true, laidLooks := .later }
def LeasePlaysCardSaid : Prop := Claim7.holds Tryd.pinned (.plain (OpenSpec.ofChange leasePlaysSpec)) leasePlaysCard

/-- THE TIED CARD OF 'cooperagelaw16.LeaseOne'. -/
def leaseOneCard : Claim7 := { stood := { row := leaseOneRow, standIns := [], harness := (true, "db7cc33e3fd29bbb427f575c6a04223a6fc11ad7dba05707f611888d71773eb8"), looks := false }, kinds := [], alts := [], laidByText := true, laidKinds := [.data, .pinned], laidTests := true, laidLooks := .later }
def LeaseOneCardSaid : Prop := Claim7.holds Tryd.pinned (.plain (OpenSpec.ofChange leaseOneSpec)) leaseOneCard

/-- THE TIED CARD OF 'cooperagelaw16.LeaseOver'. -/
def leaseOverCard : Claim7 := { stood := { row := leaseOverRow, standIns := [], harness := (true, "db7cc33e3fd29bbb427f575c6a04223a6fc11ad7dba05707f611888d71773eb8"), looks := false }, kinds := [], alts := [], laidByText := true, laidKinds := [.data, .pinned], laidTests := true, laidLooks := .later }
def LeaseOverCardSaid : Prop := Claim7.holds Tryd.pinned (.plain (OpenSpec.ofChange leaseOverSpec)) leaseOverCard

/-- THE TIED CARD OF 'cooperagelaw16.LeaseApart'. -/
def leaseApartCard : Claim7 := { stood := { row := leaseApartRow, standIns := [], harness := (true, "db7cc33e3fd29bbb427f575c6a04223a6fc11ad7dba05707f611888d71773eb8"), looks := false }, kinds := [], alts := [], laidByText := true, laidKinds := [.data, .pinned], laidTests := true, laidLooks := .later }
def LeaseApartCardSaid : Prop := Claim7.holds Tryd.pinned (.plain (OpenSpec.ofChange leaseApartSpec)) leaseApartCard

/-- THE SECOND FORM's CARD OF 'cooperagelaw16.LeaseTurn'. -/
def leaseTurnUptoCard : Claim7 := { stood := { row := leaseTurnUptoRow, standIns := [], harness := (true, "db7cc33e3fd29bbb427f575c6a04223a6fc11ad7dba05707f611888d71773eb8"), looks := false }, kinds := [], alts := [], laidByText := true, laidKinds := [.data, .pinned], laidTests := true, laidLooks := .later }
def LeaseTurnUptoCardSaid : Prop := Claim7.holds Tryd.pinned (.plain (OpenSpec.upto leaseTurnSpec)) leaseTurnUptoCard

/-- THE SECOND FORM's CARD OF 'cooperagelaw16.LeaseReaders'. -/
def leaseReadersUptoCard : Claim7 := { stood := { row := leaseReadersUptoRow, standIns := [], harness := (true, "db7cc33e3fd29bbb427f575c6a04223a6fc11ad7dba05707f611888d71773eb8"), looks := false }, kinds := [], alts := [], laidByText := true, laidKinds := [.data, .pinned], laidTests := true, laidLooks := .later }
def LeaseReadersUptoCardSaid : Prop := Claim7.holds Tryd.pinned (.plain (OpenSpec.upto leaseReadersSpec)) leaseReadersUptoCard

/-- THE SECOND FORM's CARD OF 'cooperagelaw16.LeasePlays'. -/
def leasePlaysUptoCard : Claim7 := { stood := { row := leasePlaysUptoRow, standIns := [], harness := (true, "db7cc33e3fd29bbb427f575c6a04223a6fc11ad7dba05707f611888d71773eb8"), looks := false }, kinds := [], alts := [], laidByText := true, laidKinds := [.data, .pinned], laidTests := true, laidLooks := .later }
def LeasePlaysUptoCardSaid : Prop := Claim7.holds Tryd.pinned (.plain (OpenSpec.upto leasePlaysSpec)) leasePlaysUptoCard

/-- THE SECOND FORM's CARD OF 'cooperagelaw16.LeaseOne'. -/
def leaseOneUptoCard : Claim7 := { stood := { row := leaseOneUptoRow, standIns := [], harness := (true, "db7cc33e3fd29bbb427f575c6a04223a6fc11ad7dba05707f611888d71773eb8"), looks := false }, kinds := [], alts := [], laidByText := true, laidKinds := [.data, .pinned], laidTests := true, laidLooks := .later }
def LeaseOneUptoCardSaid : Prop := Claim7.holds Tryd.pinned (.plain (OpenSpec.upto leaseOneSpec)) leaseOneUptoCard

/-- THE SECOND FORM's CARD OF 'cooperagelaw16.LeaseOver'. -/
def leaseOverUptoCard : Claim7 := { stood := { row := leaseOverUptoRow, standIns := [], harness := (true, "db7cc33e3fd29bbb427f575c6a04223a6fc11ad7dba05707f611888d71773eb8"), looks := false }, kinds := [], alts := [], laidByText := true, laidKinds := [.data, .pinned], laidTests := true, laidLooks := .later }
def LeaseOverUptoCardSaid : Prop := Claim7.holds Tryd.pinned (.plain (OpenSpec.upto leaseOverSpec)) leaseOverUptoCard

/-- THE SECOND FORM's CARD OF 'cooperagelaw16.LeaseApart'. -/
def leaseApartUptoCard : Claim7 := { stood := { row := leaseApartUptoRow, standIns := [], harness := (true, "db7cc33e3fd29bbb427f575c6a04223a6fc11ad7dba05707f611888d71773eb8"), looks := false }, kinds := [], alts := [], laidByText := true, laidKinds := [.data, .pinned], laidTests := true, laidLooks := .later }
def LeaseApartUptoCardSaid : Prop := Claim7.holds Tryd.pinned (.plain (OpenSpec.upto leaseApartSpec)) leaseApartUptoCard
end Rows
end Go.Proofs.YtgcghjkaomgloaaDoor
