/-
  DERIVED. GIVEN WITH THE SEED: THE CARDS: each row of YtnfimhdcpmakpaaDoorRows.lean that lists a variable, with what it lists TIED to the program's text (the seventh form; the later family's looks); each row that meets fmt, with fmt's text TOLD by the authors' own Lean function (tested against real Go, not proved from fmt's source: count such statements apart). THE CARD IS WHAT COUNTS. Prove the row's statement (the work); the ties are given (YtnfimhdcpmakpaaDoorTie.lean); close each card by the builder's one call (the guide's Derived/Test/ToyasCard.lean, 'card_holds'). Laid BY PROGRAM, IN A SANDBOX (cutbox-door.mjs). By AI agents, Wed Nov 11 2026. No macro, syntax, notation, axiom, sorry.
-/
import Derived.Test.YtnfimhdcpmakpaaDoorRows
import GoSem.ClaimSeven
namespace Go.Proofs.YtnfimhdcpmakpaaDoor
namespace Rows

/-- THE TIED CARD OF 'cofferlaw26.RouteTo'. -/
def routeToCard : Claim7 := { stood := { row := routeToRow, standIns := [], harness := (true, "1063c19961c9219e838130d37657617789fd0227ead9c9225198ab5935451390"), looks := false }, kinds := [], alts := [], laidByText := true, laidKinds := [.data, .data, .data, .data, .pinned], laidTests := true, laidLooks := .later }
def RouteToCardSaid : Prop := Claim7.holds Tryd.pinned (.plain (OpenSpec.ofChange routeToSpec)) routeToCard

/-- THE TIED CARD OF 'cofferlaw26.RouteTokens'. -/
def routeTokensCard : Claim7 := { stood := { row := routeTokensRow, standIns := [], harness := (true, "1063c19961c9219e838130d37657617789fd0227ead9c9225198ab5935451390"), looks := false }, kinds := [], alts := [], laidByText := true, laidKinds := [.data, .data, .data, .data, .pinned], laidTests := true, laidLooks := .later }
def RouteTokensCardSaid : Prop := Claim7.holds Tryd.pinned (.plain (OpenSpec.ofChange routeTokensSpec)) routeTokensCard

/-- THE TIED CARD OF 'cofferlaw26.RouteBare'. -/
def routeBareCard : Claim7 := { stood := { row := routeBareRow, standIns := [], harness := (true, "1063c19961c9219e838130d37657617789fd0227ead9c9225198ab5935451390"), looks := false }, kinds := [], alts := [], laidByText := true, laidKinds := [.data, .data, .data, .data, .pinned], laidTests := true, laidLooks := .later }
def RouteBareCardSaid : Prop := Claim7.holds Tryd.pinned (.plain (OpenSpec.ofChange routeBareSpec)) routeBareCard

/-- THE TIED CARD OF 'cofferlaw26.RouteRoads'. -/
def routeRoadsCard : Claim7 := { stood := { row := routeRoadsRow, standIns := [], harness := (true, "1063c19961c9219e838130d37657617789fd0227ead9c9225198ab5935451390"), looks := false }, kinds := [], alts := [], laidByText := true, laidKinds := [.data, .data, .data, .data, .pinned], laidTests := true, laidLooks := .later }
def RouteRoadsCardSaid : Prop := Claim7.holds Tryd.pinned (.plain (OpenSpec.ofChange routeRoadsSpec)) routeRoadsCard

/-- THE SECOND FORM's CARD OF 'cofferlaw26.RouteTo'. -/
def routeToUptoCard : Claim7 := { stood := { row := routeToUptoRow, standIns := [], harness := (true, "1063c19961c9219e838130d37657617789fd0227ead9c9225198ab5935451390"), looks := false }, kinds := [], alts := [], laidByText := true, laidKinds := [.data, .data, .data, .data, .pinned], laidTests := true, laidLooks := .later }
def RouteToUptoCardSaid : Prop := Claim7.holds Tryd.pinned (.plain (OpenSpec.upto routeToSpec)) routeToUptoCard

/-- THE SECOND FORM's CARD OF 'cofferlaw26.RouteTokens'. -/
def routeTokensUptoCard : Claim7 := { stood := { row := routeTokensUptoRow, standIns := [], harness := (true, "1063c19961c9219e838130d37657617789fd0227ead9c9225198ab5935451390"), looks := false }, kinds := [], alts := [], laidByText := true, laidKinds := [.data, .data, .data, .data, .pinned], laidTests := true, laidLooks := .later }
def RouteTokensUptoCardSaid : Prop := Claim7.holds Tryd.pinned (.plain (OpenSpec.upto routeTokensSpec)) routeTokensUptoCard

/-- THE SECOND FORM's CARD OF 'cofferlaw26.RouteBare'. -/
def routeBareUptoCard : Claim7 := { stood := { row := routeBareUptoRow, standIns := [], harness := (true, "1063c19961c9219e838130d37657617789fd0227ead9c9225198ab5935451390"), looks := false }, kinds := [], alts := [], laidByText := true, laidKinds := [.data, .data, .data, .data, .pinned], laidTests := true, laidLooks := .later }
def RouteBareUptoCardSaid : Prop := Claim7.holds Tryd.pinned (.plain (OpenSpec.upto routeBareSpec)) routeBareUptoCard

/-- THE SECOND FORM's CARD OF 'cofferlaw26.RouteRoads'. -/
def routeRoadsUptoCard : Claim7 := { stood := { row := routeRoadsUptoRow, standIns := [], harness := (true, "1063c19961c9219e838130d37657617789fd0227ead9c9225198ab5935451390"), looks := false }, kinds := [], alts := [], laidByText := true, laidKinds := [.data, .data, .data, .data, .pinned], laidTests := true, laidLooks := .later }
def RouteRoadsUptoCardSaid : Prop := Claim7.holds Tryd.pinned (.plain (OpenSpec.upto routeRoadsSpec)) routeRoadsUptoCard
end Rows
end Go.Proofs.YtnfimhdcpmakpaaDoor
