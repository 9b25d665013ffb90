/-
  DERIVED. GIVEN WITH THE SEED: THE CARDS: each row of YtdgoejkijpllpaaDoorRows.lean that lists a variable, with what it lists TIED to the program's text (the seventh form; the later family's looks); each row that meets fmt, with fmt's text TOLD by the authors' own Lean function (tested against real Go, not proved from fmt's source: count such statements apart). THE CARD IS WHAT COUNTS. Prove the row's statement (the work); the ties are given (YtdgoejkijpllpaaDoorTie.lean); close each card by the builder's one call (the guide's Derived/Test/ToyasCard.lean, 'card_holds'). Laid BY PROGRAM, IN A SANDBOX (cutbox-door.mjs). By AI agents, Wed Nov 11 2026. No macro, syntax, notation, axiom, sorry.
-/
import Derived.Test.YtdgoejkijpllpaaDoorRows
import GoSem.ClaimSeven
namespace Go.Proofs.YtdgoejkijpllpaaDoor
namespace Rows

/-- THE TIED CARD OF 'laws.FnExactFeedLine'. -/
def fnExactFeedLineCard : Claim7 := { stood := { row := fnExactFeedLineRow, standIns := [], harness := (true, "7903b55ea66cd87d87188c1d3c70bfe37397061c8a9aa84cbe02af628d36de52"), looks := true }, kinds := [], alts := [], laidByText := true, laidKinds := [.data, .data, .data], laidTests := true, laidLooks := .later }
def FnExactFeedLineCardSaid : Prop := Claim7.holds Tryd.pinned (.plain (OpenSpec.ofChange fnExactFeedLineSpec)) fnExactFeedLineCard

/-- THE TIED CARD OF 'laws.FnExactPlacesText'. -/
def fnExactPlacesTextCard : Claim7 := { stood := { row := fnExactPlacesTextRow, standIns := [], harness := (true, "7903b55ea66cd87d87188c1d3c70bfe37397061c8a9aa84cbe02af628d36de52"), looks := true }, kinds := [], alts := [], laidByText := true, laidKinds := [.data, .data, .data], laidTests := true, laidLooks := .later }
def FnExactPlacesTextCardSaid : Prop := Claim7.holds Tryd.pinned (.plain (OpenSpec.ofChange fnExactPlacesTextSpec)) fnExactPlacesTextCard

/-- THE TIED CARD OF 'laws.FnExactReadFeedLine'. -/
def fnExactReadFeedLineCard : Claim7 := { stood := { row := fnExactReadFeedLineRow, standIns := [], harness := (true, "7903b55ea66cd87d87188c1d3c70bfe37397061c8a9aa84cbe02af628d36de52"), looks := true }, kinds := [], alts := [], laidByText := true, laidKinds := [.data, .data, .data, .data, .sentinel, .sentinel, .pinned], laidTests := true, laidLooks := .later }
def FnExactReadFeedLineCardSaid : Prop := Claim7.holds Tryd.pinned (.plain (OpenSpec.ofChange fnExactReadFeedLineSpec)) fnExactReadFeedLineCard

/-- THE TIED CARD OF 'laws.FnFeedText'. -/
def fnFeedTextCard : Claim7 := { stood := { row := fnFeedTextRow, standIns := [], harness := (true, "7903b55ea66cd87d87188c1d3c70bfe37397061c8a9aa84cbe02af628d36de52"), looks := true }, kinds := [], alts := [], laidByText := true, laidKinds := [.data, .data, .data, .data, .sentinel, .sentinel, .pinned], laidTests := true, laidLooks := .later }
def FnFeedTextCardSaid : Prop := Claim7.holds Tryd.pinned (.plain (OpenSpec.ofChange fnFeedTextSpec)) fnFeedTextCard

/-- THE TIED CARD OF 'laws.FnExactReadPlaces'. -/
def fnExactReadPlacesCard : Claim7 := { stood := { row := fnExactReadPlacesRow, standIns := [], harness := (true, "7903b55ea66cd87d87188c1d3c70bfe37397061c8a9aa84cbe02af628d36de52"), looks := true }, kinds := [], alts := [], laidByText := true, laidKinds := [.data, .data, .data, .data, .sentinel, .sentinel, .pinned], laidTests := true, laidLooks := .later }
def FnExactReadPlacesCardSaid : Prop := Claim7.holds Tryd.pinned (.plain (OpenSpec.ofChange fnExactReadPlacesSpec)) fnExactReadPlacesCard

/-- THE SECOND FORM's CARD OF 'laws.FnExactFeedLine'. -/
def fnExactFeedLineUptoCard : Claim7 := { stood := { row := fnExactFeedLineUptoRow, standIns := [], harness := (true, "7903b55ea66cd87d87188c1d3c70bfe37397061c8a9aa84cbe02af628d36de52"), looks := true }, kinds := [], alts := [], laidByText := true, laidKinds := [.data, .data, .data], laidTests := true, laidLooks := .later }
def FnExactFeedLineUptoCardSaid : Prop := Claim7.holds Tryd.pinned (.plain (OpenSpec.upto fnExactFeedLineSpec)) fnExactFeedLineUptoCard

/-- THE SECOND FORM's CARD OF 'laws.FnExactPlacesText'. -/
def fnExactPlacesTextUptoCard : Claim7 := { stood := { row := fnExactPlacesTextUptoRow, standIns := [], harness := (true, "7903b55ea66cd87d87188c1d3c70bfe37397061c8a9aa84cbe02af628d36de52"), looks := true }, kinds := [], alts := [], laidByText := true, laidKinds := [.data, .data, .data], laidTests := true, laidLooks := .later }
def FnExactPlacesTextUptoCardSaid : Prop := Claim7.holds Tryd.pinned (.plain (OpenSpec.upto fnExactPlacesTextSpec)) fnExactPlacesTextUptoCard

/-- THE SECOND FORM's CARD OF 'laws.FnExactReadFeedLine'. -/
def fnExactReadFeedLineUptoCard : Claim7 := { stood := { row := fnExactReadFeedLineUptoRow, standIns := [], harness := (true, "7903b55ea66cd87d87188c1d3c70bfe37397061c8a9aa84cbe02af628d36de52"), looks := true }, kinds := [], alts := [], laidByText := true, laidKinds := [.data, .data, .data, .data, .sentinel, .sentinel, .pinned], laidTests := true, laidLooks := .later }
def FnExactReadFeedLineUptoCardSaid : Prop := Claim7.holds Tryd.pinned (.plain (OpenSpec.upto fnExactReadFeedLineSpec)) fnExactReadFeedLineUptoCard

/-- THE SECOND FORM's CARD OF 'laws.FnFeedText'. -/
def fnFeedTextUptoCard : Claim7 := { stood := { row := fnFeedTextUptoRow, standIns := [], harness := (true, "7903b55ea66cd87d87188c1d3c70bfe37397061c8a9aa84cbe02af628d36de52"), looks := true }, kinds := [], alts := [], laidByText := true, laidKinds := [.data, .data, .data, .data, .sentinel, .sentinel, .pinned], laidTests := true, laidLooks := .later }
def FnFeedTextUptoCardSaid : Prop := Claim7.holds Tryd.pinned (.plain (OpenSpec.upto fnFeedTextSpec)) fnFeedTextUptoCard

/-- THE SECOND FORM's CARD OF 'laws.FnExactReadPlaces'. -/
def fnExactReadPlacesUptoCard : Claim7 := { stood := { row := fnExactReadPlacesUptoRow, standIns := [], harness := (true, "7903b55ea66cd87d87188c1d3c70bfe37397061c8a9aa84cbe02af628d36de52"), looks := true }, kinds := [], alts := [], laidByText := true, laidKinds := [.data, .data, .data, .data, .sentinel, .sentinel, .pinned], laidTests := true, laidLooks := .later }
def FnExactReadPlacesUptoCardSaid : Prop := Claim7.holds Tryd.pinned (.plain (OpenSpec.upto fnExactReadPlacesSpec)) fnExactReadPlacesUptoCard
end Rows
end Go.Proofs.YtdgoejkijpllpaaDoor
