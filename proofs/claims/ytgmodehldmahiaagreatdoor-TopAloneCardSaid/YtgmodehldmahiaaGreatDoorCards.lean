/-
  DERIVED. GIVEN WITH THE SEED: THE CARDS: each row of YtgmodehldmahiaaGreatDoorRows.lean that lists a variable, with what it lists TIED to the program's text (the seventh form; the later family's looks); each row that meets fmt, with fmt's text TOLD by the authors' own Lean function (tested against real Go, not proved from fmt's source: count such statements apart). THE CARD IS WHAT COUNTS. Prove the row's statement (the work); the ties are given (YtgmodehldmahiaaGreatDoorTie.lean); close each card by the builder's one call (the guide's Derived/Test/ToyasCard.lean, 'card_holds'). Laid BY PROGRAM, IN A SANDBOX (cutbox-door.mjs). By AI agents, Wed Nov 11 2026. No macro, syntax, notation, axiom, sorry.
-/
import Derived.Test.YtgmodehldmahiaaGreatDoorRows
import GoSem.ClaimSeven
namespace Go.Proofs.YtgmodehldmahiaaGreatDoor
namespace Rows

/-- THE TIED CARD OF 'transomtop.TopApart'. -/
def topApartCard : Claim7 := { stood := { row := topApartRow, standIns := [], harness := (true, "750abf94a98b70777618b15ec4c099ce8c3be26c5ce33c5a36e879bbbb684b2b"), looks := false }, kinds := [], alts := [], laidByText := true, laidKinds := [.data], laidTests := true, laidLooks := .later }
def TopApartCardSaid : Prop := Claim7.holds Tryz.pinned (.plain (OpenSpec.ofChange topApartSpec)) topApartCard

/-- THE TIED CARD OF 'transomtop.TopAlone'. -/
def topAloneCard : Claim7 := { stood := { row := topAloneRow, standIns := [], harness := (true, "750abf94a98b70777618b15ec4c099ce8c3be26c5ce33c5a36e879bbbb684b2b"), looks := false }, kinds := [], alts := [], laidByText := true, laidKinds := [.data], laidTests := true, laidLooks := .later }
def TopAloneCardSaid : Prop := Claim7.holds Tryz.pinned (.plain (OpenSpec.ofChange topAloneSpec)) topAloneCard

/-- THE TIED CARD OF 'transomtop.TopWindows'. -/
def topWindowsCard : Claim7 := { stood := { row := topWindowsRow, standIns := [], harness := (true, "750abf94a98b70777618b15ec4c099ce8c3be26c5ce33c5a36e879bbbb684b2b"), looks := false }, kinds := [], alts := [], laidByText := true, laidKinds := [.data], laidTests := true, laidLooks := .later }
def TopWindowsCardSaid : Prop := Claim7.holds Tryz.pinned (.plain (OpenSpec.ofChange topWindowsSpec)) topWindowsCard

/-- THE SECOND FORM's CARD OF 'transomtop.TopApart'. -/
def topApartUptoCard : Claim7 := { stood := { row := topApartUptoRow, standIns := [], harness := (true, "750abf94a98b70777618b15ec4c099ce8c3be26c5ce33c5a36e879bbbb684b2b"), looks := false }, kinds := [], alts := [], laidByText := true, laidKinds := [.data], laidTests := true, laidLooks := .later }
def TopApartUptoCardSaid : Prop := Claim7.holds Tryz.pinned (.plain (OpenSpec.upto topApartSpec)) topApartUptoCard

/-- THE SECOND FORM's CARD OF 'transomtop.TopAlone'. -/
def topAloneUptoCard : Claim7 := { stood := { row := topAloneUptoRow, standIns := [], harness := (true, "750abf94a98b70777618b15ec4c099ce8c3be26c5ce33c5a36e879bbbb684b2b"), looks := false }, kinds := [], alts := [], laidByText := true, laidKinds := [.data], laidTests := true, laidLooks := .later }
def TopAloneUptoCardSaid : Prop := Claim7.holds Tryz.pinned (.plain (OpenSpec.upto topAloneSpec)) topAloneUptoCard

/-- THE SECOND FORM's CARD OF 'transomtop.TopWindows'. -/
def topWindowsUptoCard : Claim7 := { stood := { row := topWindowsUptoRow, standIns := [], harness := (true, "750abf94a98b70777618b15ec4c099ce8c3be26c5ce33c5a36e879bbbb684b2b"), looks := false }, kinds := [], alts := [], laidByText := true, laidKinds := [.data], laidTests := true, laidLooks := .later }
def TopWindowsUptoCardSaid : Prop := Claim7.holds Tryz.pinned (.plain (OpenSpec.upto topWindowsSpec)) topWindowsUptoCard
end Rows
end Go.Proofs.YtgmodehldmahiaaGreatDoor
