/-
  DERIVED. GIVEN WITH THE SEED: THE CARDS: each row of YtaknknfcikdjiaaGreatDoorRows.lean that lists a variable, with what it lists TIED to the program's text (the seventh form; the later family's looks); each row that meets fmt, with fmt's text TOLD by the authors' own Lean function (tested against real Go, not proved from fmt's source: count such statements apart). THE CARD IS WHAT COUNTS. Prove the row's statement (the work); the ties are given (YtaknknfcikdjiaaGreatDoorTie.lean); close each card by the builder's one call (the guide's Derived/Test/ToyasCard.lean, 'card_holds'). Laid BY PROGRAM, IN A SANDBOX (cutbox-door.mjs). By AI agents, Wed Nov 11 2026. No macro, syntax, notation, axiom, sorry.
-/
import Derived.Test.YtaknknfcikdjiaaGreatDoorRows
import GoSem.ClaimSeven
namespace Go.Proofs.YtaknknfcikdjiaaGreatDoor
namespace Rows

/-- THE TIED CARD OF 'postriderlaw16.RoutePasses'. -/
def routePassesCard : Claim7 := { stood := { row := routePassesRow, standIns := [], harness := (true, "1ea187a463688365b6ccb817fb1d635e32a42e2d48a4bc387bb712b03c5520b5"), looks := true }, kinds := [], alts := [], laidByText := true, laidKinds := [.data, .data, .data, .sentinel, .sentinel, .sentinel, .sentinel, .sentinel, .sentinel, .sentinel, .sentinel], laidTests := true, laidLooks := .later }
def RoutePassesCardSaid : Prop := Claim7.holds Tryz.pinned (.plain (OpenSpec.ofChange routePassesSpec)) routePassesCard

/-- THE TIED CARD OF 'postriderlaw16.RouteMore'. -/
def routeMoreCard : Claim7 := { stood := { row := routeMoreRow, standIns := [], harness := (true, "1ea187a463688365b6ccb817fb1d635e32a42e2d48a4bc387bb712b03c5520b5"), looks := true }, kinds := [], alts := [], laidByText := true, laidKinds := [.data, .data, .data, .sentinel, .sentinel, .sentinel, .sentinel, .sentinel, .sentinel, .sentinel, .sentinel], laidTests := true, laidLooks := .later }
def RouteMoreCardSaid : Prop := Claim7.holds Tryz.pinned (.plain (OpenSpec.ofChange routeMoreSpec)) routeMoreCard

/-- THE TIED CARD OF 'postriderlaw16.RouteLess'. -/
def routeLessCard : Claim7 := { stood := { row := routeLessRow, standIns := [], harness := (true, "1ea187a463688365b6ccb817fb1d635e32a42e2d48a4bc387bb712b03c5520b5"), looks := true }, kinds := [], alts := [], laidByText := true, laidKinds := [.data, .data, .data, .sentinel, .sentinel, .sentinel, .sentinel, .sentinel, .sentinel, .sentinel, .sentinel], laidTests := true, laidLooks := .later }
def RouteLessCardSaid : Prop := Claim7.holds Tryz.pinned (.plain (OpenSpec.ofChange routeLessSpec)) routeLessCard

/-- THE TIED CARD OF 'postriderlaw16.RouteSorted'. -/
def routeSortedCard : Claim7 := { stood := { row := routeSortedRow, standIns := [], harness := (true, "1ea187a463688365b6ccb817fb1d635e32a42e2d48a4bc387bb712b03c5520b5"), looks := true }, kinds := [], alts := [], laidByText := true, laidKinds := [.data, .data, .data, .sentinel, .sentinel, .sentinel, .sentinel, .sentinel, .sentinel, .sentinel, .sentinel], laidTests := true, laidLooks := .later }
def RouteSortedCardSaid : Prop := Claim7.holds Tryz.pinned (.plain (OpenSpec.ofChange routeSortedSpec)) routeSortedCard

/-- THE TIED CARD OF 'postriderlaw16.RouteEmpty'. -/
def routeEmptyCard : Claim7 := { stood := { row := routeEmptyRow, standIns := [], harness := (true, "1ea187a463688365b6ccb817fb1d635e32a42e2d48a4bc387bb712b03c5520b5"), looks := true }, kinds := [], alts := [], laidByText := true, laidKinds := [.data, .data, .data, .sentinel, .sentinel, .sentinel, .sentinel, .sentinel, .sentinel, .sentinel, .sentinel], laidTests := true, laidLooks := .later }
def RouteEmptyCardSaid : Prop := Claim7.holds Tryz.pinned (.plain (OpenSpec.ofChange routeEmptySpec)) routeEmptyCard

/-- THE TIED CARD OF 'postriderlaw16.RouteFinds'. -/
def routeFindsCard : Claim7 := { stood := { row := routeFindsRow, standIns := [], harness := (true, "1ea187a463688365b6ccb817fb1d635e32a42e2d48a4bc387bb712b03c5520b5"), looks := true }, kinds := [], alts := [], laidByText := true, laidKinds := [.data, .data, .data, .sentinel, .sentinel, .sentinel, .sentinel, .sentinel, .sentinel, .sentinel, .sentinel], laidTests := true, laidLooks := .later }
def RouteFindsCardSaid : Prop := Claim7.holds Tryz.pinned (.plain (OpenSpec.ofChange routeFindsSpec)) routeFindsCard

/-- THE TIED CARD OF 'postriderlaw16.RouteLongest'. -/
def routeLongestCard : Claim7 := { stood := { row := routeLongestRow, standIns := [], harness := (true, "1ea187a463688365b6ccb817fb1d635e32a42e2d48a4bc387bb712b03c5520b5"), looks := true }, kinds := [], alts := [], laidByText := true, laidKinds := [.data, .data, .data, .sentinel, .sentinel, .sentinel, .sentinel, .sentinel, .sentinel, .sentinel, .sentinel], laidTests := true, laidLooks := .later }
def RouteLongestCardSaid : Prop := Claim7.holds Tryz.pinned (.plain (OpenSpec.ofChange routeLongestSpec)) routeLongestCard

/-- THE SECOND FORM's CARD OF 'postriderlaw16.RoutePasses'. -/
def routePassesUptoCard : Claim7 := { stood := { row := routePassesUptoRow, standIns := [], harness := (true, "1ea187a463688365b6ccb817fb1d635e32a42e2d48a4bc387bb712b03c5520b5"), looks := true }, kinds := [], alts := [], laidByText := true, laidKinds := [.data, .data, .data, .sentinel, .sentinel, .sentinel, .sentinel, .sentinel, .sentinel, .sentinel, .sentinel], laidTests := true, laidLooks := .later }
def RoutePassesUptoCardSaid : Prop := Claim7.holds Tryz.pinned (.plain (OpenSpec.upto routePassesSpec)) routePassesUptoCard

/-- THE SECOND FORM's CARD OF 'postriderlaw16.RouteMore'. -/
def routeMoreUptoCard : Claim7 := { stood := { row := routeMoreUptoRow, standIns := [], harness := (true, "1ea187a463688365b6ccb817fb1d635e32a42e2d48a4bc387bb712b03c5520b5"), looks := true }, kinds := [], alts := [], laidByText := true, laidKinds := [.data, .data, .data, .sentinel, .sentinel, .sentinel, .sentinel, .sentinel, .sentinel, .sentinel, .sentinel], laidTests := true, laidLooks := .later }
def RouteMoreUptoCardSaid : Prop := Claim7.holds Tryz.pinned (.plain (OpenSpec.upto routeMoreSpec)) routeMoreUptoCard

/-- THE SECOND FORM's CARD OF 'postriderlaw16.RouteLess'. -/
def routeLessUptoCard : Claim7 := { stood := { row := routeLessUptoRow, standIns := [], harness := (true, "1ea187a463688365b6ccb817fb1d635e32a42e2d48a4bc387bb712b03c5520b5"), looks := true }, kinds := [], alts := [], laidByText := true, laidKinds := [.data, .data, .data, .sentinel, .sentinel, .sentinel, .sentinel, .sentinel, .sentinel, .sentinel, .sentinel], laidTests := true, laidLooks := .later }
def RouteLessUptoCardSaid : Prop := Claim7.holds Tryz.pinned (.plain (OpenSpec.upto routeLessSpec)) routeLessUptoCard

/-- THE SECOND FORM's CARD OF 'postriderlaw16.RouteSorted'. -/
def routeSortedUptoCard : Claim7 := { stood := { row := routeSortedUptoRow, standIns := [], harness := (true, "1ea187a463688365b6ccb817fb1d635e32a42e2d48a4bc387bb712b03c5520b5"), looks := true }, kinds := [], alts := [], laidByText := true, laidKinds := [.data, .data, .data, .sentinel, .sentinel, .sentinel, .sentinel, .sentinel, .sentinel, .sentinel, .sentinel], laidTests := true, laidLooks := .later }
def RouteSortedUptoCardSaid : Prop := Claim7.holds Tryz.pinned (.plain (OpenSpec.upto routeSortedSpec)) routeSortedUptoCard

/-- THE SECOND FORM's CARD OF 'postriderlaw16.RouteEmpty'. -/
def routeEmptyUptoCard : Claim7 := { stood := { row := routeEmptyUptoRow, standIns := [], harness := (true, "1ea187a463688365b6ccb817fb1d635e32a42e2d48a4bc387bb712b03c5520b5"), looks := true }, kinds := [], alts := [], laidByText := true, laidKinds := [.data, .data, .data, .sentinel, .sentinel, .sentinel, .sentinel, .sentinel, .sentinel, .sentinel, .sentinel], laidTests := true, laidLooks := .later }
def RouteEmptyUptoCardSaid : Prop := Claim7.holds Tryz.pinned (.plain (OpenSpec.upto routeEmptySpec)) routeEmptyUptoCard

/-- THE SECOND FORM's CARD OF 'postriderlaw16.RouteFinds'. -/
def routeFindsUptoCard : Claim7 := { stood := { row := routeFindsUptoRow, standIns := [], harness := (true, "1ea187a463688365b6ccb817fb1d635e32a42e2d48a4bc387bb712b03c5520b5"), looks := true }, kinds := [], alts := [], laidByText := true, laidKinds := [.data, .data, .data, .sentinel, .sentinel, .sentinel, .sentinel, .sentinel, .sentinel, .sentinel, .sentinel], laidTests := true, laidLooks := .later }
def RouteFindsUptoCardSaid : Prop := Claim7.holds Tryz.pinned (.plain (OpenSpec.upto routeFindsSpec)) routeFindsUptoCard

/-- THE SECOND FORM's CARD OF 'postriderlaw16.RouteLongest'. -/
def routeLongestUptoCard : Claim7 := { stood := { row := routeLongestUptoRow, standIns := [], harness := (true, "1ea187a463688365b6ccb817fb1d635e32a42e2d48a4bc387bb712b03c5520b5"), looks := true }, kinds := [], alts := [], laidByText := true, laidKinds := [.data, .data, .data, .sentinel, .sentinel, .sentinel, .sentinel, .sentinel, .sentinel, .sentinel, .sentinel], laidTests := true, laidLooks := .later }
def RouteLongestUptoCardSaid : Prop := Claim7.holds Tryz.pinned (.plain (OpenSpec.upto routeLongestSpec)) routeLongestUptoCard
end Rows
end Go.Proofs.YtaknknfcikdjiaaGreatDoor
