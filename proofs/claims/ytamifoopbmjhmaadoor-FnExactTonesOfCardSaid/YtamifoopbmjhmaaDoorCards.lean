/-
  DERIVED. GIVEN WITH THE SEED: THE CARDS: each row of YtamifoopbmjhmaaDoorRows.lean that lists a variable, with what it lists TIED to the program's text (the seventh form; the later family's looks); each row that meets fmt, with fmt's text TOLD by the authors' own Lean function (tested against real Go, not proved from fmt's source: count such statements apart). THE CARD IS WHAT COUNTS. Prove the row's statement (the work); the ties are given (YtamifoopbmjhmaaDoorTie.lean); close each card by the builder's one call (the guide's Derived/Test/ToyasCard.lean, 'card_holds'). Laid BY PROGRAM, IN A SANDBOX (cutbox-door.mjs). By AI agents, Wed Nov 11 2026. No macro, syntax, notation, axiom, sorry.
-/
import Derived.Test.YtamifoopbmjhmaaDoorRows
import GoSem.ClaimSeven
namespace Go.Proofs.YtamifoopbmjhmaaDoor
namespace Rows

/-- THE TIED CARD OF 'laws.FnExactTonesOf'. -/
def fnExactTonesOfCard : Claim7 := { stood := { row := fnExactTonesOfRow, standIns := [], harness := (true, "d20219f7ecdf3669aba5aba9a67dfbac939c4360f32589053a7c4107da716e27"), looks := false }, kinds := [], alts := [], laidByText := true, laidKinds := [.data, .data], laidTests := true, laidLooks := .later }
def FnExactTonesOfCardSaid : Prop := Claim7.holds Tryd.pinned (.plain (OpenSpec.ofChange fnExactTonesOfSpec)) fnExactTonesOfCard

/-- THE TIED CARD OF 'laws.FnTones'. -/
def fnTonesCard : Claim7 := { stood := { row := fnTonesRow, standIns := [], harness := (true, "d20219f7ecdf3669aba5aba9a67dfbac939c4360f32589053a7c4107da716e27"), looks := false }, kinds := [], alts := [], laidByText := true, laidKinds := [.data, .data], laidTests := true, laidLooks := .later }
def FnTonesCardSaid : Prop := Claim7.holds Tryd.pinned (.plain (OpenSpec.ofChange fnTonesSpec)) fnTonesCard

/-- THE SECOND FORM's CARD OF 'laws.FnExactTonesOf'. -/
def fnExactTonesOfUptoCard : Claim7 := { stood := { row := fnExactTonesOfUptoRow, standIns := [], harness := (true, "d20219f7ecdf3669aba5aba9a67dfbac939c4360f32589053a7c4107da716e27"), looks := false }, kinds := [], alts := [], laidByText := true, laidKinds := [.data, .data], laidTests := true, laidLooks := .later }
def FnExactTonesOfUptoCardSaid : Prop := Claim7.holds Tryd.pinned (.plain (OpenSpec.upto fnExactTonesOfSpec)) fnExactTonesOfUptoCard

/-- THE SECOND FORM's CARD OF 'laws.FnTones'. -/
def fnTonesUptoCard : Claim7 := { stood := { row := fnTonesUptoRow, standIns := [], harness := (true, "d20219f7ecdf3669aba5aba9a67dfbac939c4360f32589053a7c4107da716e27"), looks := false }, kinds := [], alts := [], laidByText := true, laidKinds := [.data, .data], laidTests := true, laidLooks := .later }
def FnTonesUptoCardSaid : Prop := Claim7.holds Tryd.pinned (.plain (OpenSpec.upto fnTonesSpec)) fnTonesUptoCard
end Rows
end Go.Proofs.YtamifoopbmjhmaaDoor
