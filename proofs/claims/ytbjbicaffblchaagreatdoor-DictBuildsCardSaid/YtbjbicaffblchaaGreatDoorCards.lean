/-
  DERIVED. GIVEN WITH THE SEED: THE CARDS: each row of YtbjbicaffblchaaGreatDoorRows.lean that lists a variable, with what it lists TIED to the program's text (the seventh form; the later family's looks); each row that meets fmt, with fmt's text TOLD by the authors' own Lean function (tested against real Go, not proved from fmt's source: count such statements apart). THE CARD IS WHAT COUNTS. Prove the row's statement (the work); the ties are given (YtbjbicaffblchaaGreatDoorTie.lean); close each card by the builder's one call (the guide's Derived/Test/ToyasCard.lean, 'card_holds'). Laid BY PROGRAM, IN A SANDBOX (cutbox-door.mjs). By AI agents, Wed Nov 11 2026. No macro, syntax, notation, axiom, sorry.
-/
import Derived.Test.YtbjbicaffblchaaGreatDoorRows
import GoSem.ClaimSeven
namespace Go.Proofs.YtbjbicaffblchaaGreatDoor
namespace Rows

/-- THE TIED CARD OF 'postriderlaw07.DictBuilds'. -/
def dictBuildsCard : Claim7 := { stood := { row := dictBuildsRow, standIns := [], harness := (true, "8cb4686677cb2cb14496258abcee243d3b2df02a8124fa3e5e75ad25a9595d8f"), looks := true }, kinds := [], alts := [], laidByText := true, laidKinds := [.data, .data, .data, .sentinel, .sentinel, .sentinel, .sentinel, .sentinel], laidTests := true, laidLooks := .later }
def DictBuildsCardSaid : Prop := Claim7.holds Tryz.pinned (.plain (OpenSpec.ofChange dictBuildsSpec)) dictBuildsCard

/-- THE TIED CARD OF 'postriderlaw07.DictBack'. -/
def dictBackCard : Claim7 := { stood := { row := dictBackRow, standIns := [], harness := (true, "8cb4686677cb2cb14496258abcee243d3b2df02a8124fa3e5e75ad25a9595d8f"), looks := true }, kinds := [], alts := [], laidByText := true, laidKinds := [.data, .data, .data, .sentinel, .sentinel, .sentinel, .sentinel, .sentinel], laidTests := true, laidLooks := .later }
def DictBackCardSaid : Prop := Claim7.holds Tryz.pinned (.plain (OpenSpec.ofChange dictBackSpec)) dictBackCard

/-- THE TIED CARD OF 'postriderlaw07.DictOnce'. -/
def dictOnceCard : Claim7 := { stood := { row := dictOnceRow, standIns := [], harness := (true, "8cb4686677cb2cb14496258abcee243d3b2df02a8124fa3e5e75ad25a9595d8f"), looks := true }, kinds := [], alts := [], laidByText := true, laidKinds := [.data, .data, .data, .sentinel, .sentinel, .sentinel, .sentinel, .sentinel], laidTests := true, laidLooks := .later }
def DictOnceCardSaid : Prop := Claim7.holds Tryz.pinned (.plain (OpenSpec.ofChange dictOnceSpec)) dictOnceCard

/-- THE TIED CARD OF 'postriderlaw07.DictPlaces'. -/
def dictPlacesCard : Claim7 := { stood := { row := dictPlacesRow, standIns := [], harness := (true, "8cb4686677cb2cb14496258abcee243d3b2df02a8124fa3e5e75ad25a9595d8f"), looks := true }, kinds := [], alts := [], laidByText := true, laidKinds := [.data, .data, .data, .sentinel, .sentinel, .sentinel, .sentinel, .sentinel], laidTests := true, laidLooks := .later }
def DictPlacesCardSaid : Prop := Claim7.holds Tryz.pinned (.plain (OpenSpec.ofChange dictPlacesSpec)) dictPlacesCard

/-- THE TIED CARD OF 'postriderlaw07.DictTexts'. -/
def dictTextsCard : Claim7 := { stood := { row := dictTextsRow, standIns := [], harness := (true, "8cb4686677cb2cb14496258abcee243d3b2df02a8124fa3e5e75ad25a9595d8f"), looks := true }, kinds := [], alts := [], laidByText := true, laidKinds := [.data, .data, .data, .sentinel, .sentinel, .sentinel, .sentinel, .sentinel], laidTests := true, laidLooks := .later }
def DictTextsCardSaid : Prop := Claim7.holds Tryz.pinned (.plain (OpenSpec.ofChange dictTextsSpec)) dictTextsCard

/-- THE SECOND FORM's CARD OF 'postriderlaw07.DictBuilds'. -/
def dictBuildsUptoCard : Claim7 := { stood := { row := dictBuildsUptoRow, standIns := [], harness := (true, "8cb4686677cb2cb14496258abcee243d3b2df02a8124fa3e5e75ad25a9595d8f"), looks := true }, kinds := [], alts := [], laidByText := true, laidKinds := [.data, .data, .data, .sentinel, .sentinel, .sentinel, .sentinel, .sentinel], laidTests := true, laidLooks := .later }
def DictBuildsUptoCardSaid : Prop := Claim7.holds Tryz.pinned (.plain (OpenSpec.upto dictBuildsSpec)) dictBuildsUptoCard

/-- THE SECOND FORM's CARD OF 'postriderlaw07.DictBack'. -/
def dictBackUptoCard : Claim7 := { stood := { row := dictBackUptoRow, standIns := [], harness := (true, "8cb4686677cb2cb14496258abcee243d3b2df02a8124fa3e5e75ad25a9595d8f"), looks := true }, kinds := [], alts := [], laidByText := true, laidKinds := [.data, .data, .data, .sentinel, .sentinel, .sentinel, .sentinel, .sentinel], laidTests := true, laidLooks := .later }
def DictBackUptoCardSaid : Prop := Claim7.holds Tryz.pinned (.plain (OpenSpec.upto dictBackSpec)) dictBackUptoCard

/-- THE SECOND FORM's CARD OF 'postriderlaw07.DictOnce'. -/
def dictOnceUptoCard : Claim7 := { stood := { row := dictOnceUptoRow, standIns := [], harness := (true, "8cb4686677cb2cb14496258abcee243d3b2df02a8124fa3e5e75ad25a9595d8f"), looks := true }, kinds := [], alts := [], laidByText := true, laidKinds := [.data, .data, .data, .sentinel, .sentinel, .sentinel, .sentinel, .sentinel], laidTests := true, laidLooks := .later }
def DictOnceUptoCardSaid : Prop := Claim7.holds Tryz.pinned (.plain (OpenSpec.upto dictOnceSpec)) dictOnceUptoCard

/-- THE SECOND FORM's CARD OF 'postriderlaw07.DictPlaces'. -/
def dictPlacesUptoCard : Claim7 := { stood := { row := dictPlacesUptoRow, standIns := [], harness := (true, "8cb4686677cb2cb14496258abcee243d3b2df02a8124fa3e5e75ad25a9595d8f"), looks := true }, kinds := [], alts := [], laidByText := true, laidKinds := [.data, .data, .data, .sentinel, .sentinel, .sentinel, .sentinel, .sentinel], laidTests := true, laidLooks := .later }
def DictPlacesUptoCardSaid : Prop := Claim7.holds Tryz.pinned (.plain (OpenSpec.upto dictPlacesSpec)) dictPlacesUptoCard

/-- THE SECOND FORM's CARD OF 'postriderlaw07.DictTexts'. -/
def dictTextsUptoCard : Claim7 := { stood := { row := dictTextsUptoRow, standIns := [], harness := (true, "8cb4686677cb2cb14496258abcee243d3b2df02a8124fa3e5e75ad25a9595d8f"), looks := true }, kinds := [], alts := [], laidByText := true, laidKinds := [.data, .data, .data, .sentinel, .sentinel, .sentinel, .sentinel, .sentinel], laidTests := true, laidLooks := .later }
def DictTextsUptoCardSaid : Prop := Claim7.holds Tryz.pinned (.plain (OpenSpec.upto dictTextsSpec)) dictTextsUptoCard
end Rows
end Go.Proofs.YtbjbicaffblchaaGreatDoor
