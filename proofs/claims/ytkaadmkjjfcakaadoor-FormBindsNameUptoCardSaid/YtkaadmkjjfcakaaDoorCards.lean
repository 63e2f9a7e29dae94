/-
  DERIVED. GIVEN WITH THE SEED: THE CARDS: each row of YtkaadmkjjfcakaaDoorRows.lean that lists a variable, with what it lists TIED to the program's text (the seventh form; the later family's looks); each row that meets fmt, with fmt's text TOLD by the authors' own Lean function (tested against real Go, not proved from fmt's source: count such statements apart). THE CARD IS WHAT COUNTS. Prove the row's statement (the work); the ties are given (YtkaadmkjjfcakaaDoorTie.lean); close each card by the builder's one call (the guide's Derived/Test/ToyasCard.lean, 'card_holds'). Laid BY PROGRAM, IN A SANDBOX (cutbox-door.mjs). By AI agents, Wed Nov 11 2026. No macro, syntax, notation, axiom, sorry.
-/
import Derived.Test.YtkaadmkjjfcakaaDoorRows
import GoSem.ClaimSeven
namespace Go.Proofs.YtkaadmkjjfcakaaDoor
namespace Rows

/-- THE TIED CARD OF 'chalklinelaw06.FormCheckSpec'. -/
def formCheckSpecCard : Claim7 := { stood := { row := formCheckSpecRow, standIns := [], harness := (true, "a858cfff6ae89ef3f6d1dcc07a12fd9ca571db812b026a172a7b56265b0ae773"), looks := false }, kinds := [], alts := [], laidByText := true, laidKinds := [.data, .mapped, .mapped, .mapped, .mapped, .pinned], laidTests := true, laidLooks := .later }
def FormCheckSpecCardSaid : Prop := Claim7.holds Tryd.pinned (.plain (OpenSpec.ofChange formCheckSpecSpec)) formCheckSpecCard

/-- THE TIED CARD OF 'chalklinelaw06.FormFreeSpec'. -/
def formFreeSpecCard : Claim7 := { stood := { row := formFreeSpecRow, standIns := [], harness := (true, "a858cfff6ae89ef3f6d1dcc07a12fd9ca571db812b026a172a7b56265b0ae773"), looks := false }, kinds := [], alts := [], laidByText := true, laidKinds := [.data, .mapped, .mapped, .mapped, .mapped, .pinned], laidTests := true, laidLooks := .later }
def FormFreeSpecCardSaid : Prop := Claim7.holds Tryd.pinned (.plain (OpenSpec.ofChange formFreeSpecSpec)) formFreeSpecCard

/-- THE TIED CARD OF 'chalklinelaw06.FormNnfSpec'. -/
def formNnfSpecCard : Claim7 := { stood := { row := formNnfSpecRow, standIns := [], harness := (true, "a858cfff6ae89ef3f6d1dcc07a12fd9ca571db812b026a172a7b56265b0ae773"), looks := false }, kinds := [], alts := [], laidByText := true, laidKinds := [.data, .mapped, .mapped, .mapped, .mapped, .pinned], laidTests := true, laidLooks := .later }
def FormNnfSpecCardSaid : Prop := Claim7.holds Tryd.pinned (.plain (OpenSpec.ofChange formNnfSpecSpec)) formNnfSpecCard

/-- THE TIED CARD OF 'chalklinelaw06.FormNnfNormal'. -/
def formNnfNormalCard : Claim7 := { stood := { row := formNnfNormalRow, standIns := [], harness := (true, "a858cfff6ae89ef3f6d1dcc07a12fd9ca571db812b026a172a7b56265b0ae773"), looks := false }, kinds := [], alts := [], laidByText := true, laidKinds := [.data, .mapped, .mapped, .mapped, .mapped, .pinned], laidTests := true, laidLooks := .later }
def FormNnfNormalCardSaid : Prop := Claim7.holds Tryd.pinned (.plain (OpenSpec.ofChange formNnfNormalSpec)) formNnfNormalCard

/-- THE TIED CARD OF 'chalklinelaw06.FormDoubleNegation'. -/
def formDoubleNegationCard : Claim7 := { stood := { row := formDoubleNegationRow, standIns := [], harness := (true, "a858cfff6ae89ef3f6d1dcc07a12fd9ca571db812b026a172a7b56265b0ae773"), looks := false }, kinds := [], alts := [], laidByText := true, laidKinds := [.data, .mapped, .mapped, .mapped, .mapped, .pinned], laidTests := true, laidLooks := .later }
def FormDoubleNegationCardSaid : Prop := Claim7.holds Tryd.pinned (.plain (OpenSpec.ofChange formDoubleNegationSpec)) formDoubleNegationCard

/-- THE TIED CARD OF 'chalklinelaw06.FormCompositional'. -/
def formCompositionalCard : Claim7 := { stood := { row := formCompositionalRow, standIns := [], harness := (true, "a858cfff6ae89ef3f6d1dcc07a12fd9ca571db812b026a172a7b56265b0ae773"), looks := false }, kinds := [], alts := [], laidByText := true, laidKinds := [.data, .mapped, .mapped, .mapped, .mapped, .pinned], laidTests := true, laidLooks := .later }
def FormCompositionalCardSaid : Prop := Claim7.holds Tryd.pinned (.plain (OpenSpec.ofChange formCompositionalSpec)) formCompositionalCard

/-- THE TIED CARD OF 'chalklinelaw06.FormBindsName'. -/
def formBindsNameCard : Claim7 := { stood := { row := formBindsNameRow, standIns := [], harness := (true, "a858cfff6ae89ef3f6d1dcc07a12fd9ca571db812b026a172a7b56265b0ae773"), looks := false }, kinds := [], alts := [], laidByText := true, laidKinds := [.data, .mapped, .mapped, .mapped, .mapped, .pinned], laidTests := true, laidLooks := .later }
def FormBindsNameCardSaid : Prop := Claim7.holds Tryd.pinned (.plain (OpenSpec.ofChange formBindsNameSpec)) formBindsNameCard

/-- THE TIED CARD OF 'chalklinelaw06.FormSameExact'. -/
def formSameExactCard : Claim7 := { stood := { row := formSameExactRow, standIns := [], harness := (true, "a858cfff6ae89ef3f6d1dcc07a12fd9ca571db812b026a172a7b56265b0ae773"), looks := false }, kinds := [], alts := [], laidByText := true, laidKinds := [.data, .mapped, .mapped, .mapped, .mapped, .pinned], laidTests := true, laidLooks := .later }
def FormSameExactCardSaid : Prop := Claim7.holds Tryd.pinned (.plain (OpenSpec.ofChange formSameExactSpec)) formSameExactCard

/-- THE SECOND FORM's CARD OF 'chalklinelaw06.FormCheckSpec'. -/
def formCheckSpecUptoCard : Claim7 := { stood := { row := formCheckSpecUptoRow, standIns := [], harness := (true, "a858cfff6ae89ef3f6d1dcc07a12fd9ca571db812b026a172a7b56265b0ae773"), looks := false }, kinds := [], alts := [], laidByText := true, laidKinds := [.data, .mapped, .mapped, .mapped, .mapped, .pinned], laidTests := true, laidLooks := .later }
def FormCheckSpecUptoCardSaid : Prop := Claim7.holds Tryd.pinned (.plain (OpenSpec.upto formCheckSpecSpec)) formCheckSpecUptoCard

/-- THE SECOND FORM's CARD OF 'chalklinelaw06.FormFreeSpec'. -/
def formFreeSpecUptoCard : Claim7 := { stood := { row := formFreeSpecUptoRow, standIns := [], harness := (true, "a858cfff6ae89ef3f6d1dcc07a12fd9ca571db812b026a172a7b56265b0ae773"), looks := false }, kinds := [], alts := [], laidByText := true, laidKinds := [.data, .mapped, .mapped, .mapped, .mapped, .pinned], laidTests := true, laidLooks := .later }
def FormFreeSpecUptoCardSaid : Prop := Claim7.holds Tryd.pinned (.plain (OpenSpec.upto formFreeSpecSpec)) formFreeSpecUptoCard

/-- THE SECOND FORM's CARD OF 'chalklinelaw06.FormNnfSpec'. -/
def formNnfSpecUptoCard : Claim7 := { stood := { row := formNnfSpecUptoRow, standIns := [], harness := (true, "a858cfff6ae89ef3f6d1dcc07a12fd9ca571db812b026a172a7b56265b0ae773"), looks := false }, kinds := [], alts := [], laidByText := true, laidKinds := [.data, .mapped, .mapped, .mapped, .mapped, .pinned], laidTests := true, laidLooks := .later }
def FormNnfSpecUptoCardSaid : Prop := Claim7.holds Tryd.pinned (.plain (OpenSpec.upto formNnfSpecSpec)) formNnfSpecUptoCard

/-- THE SECOND FORM's CARD OF 'chalklinelaw06.FormNnfNormal'. -/
def formNnfNormalUptoCard : Claim7 := { stood := { row := formNnfNormalUptoRow, standIns := [], harness := (true, "a858cfff6ae89ef3f6d1dcc07a12fd9ca571db812b026a172a7b56265b0ae773"), looks := false }, kinds := [], alts := [], laidByText := true, laidKinds := [.data, .mapped, .mapped, .mapped, .mapped, .pinned], laidTests := true, laidLooks := .later }
def FormNnfNormalUptoCardSaid : Prop := Claim7.holds Tryd.pinned (.plain (OpenSpec.upto formNnfNormalSpec)) formNnfNormalUptoCard

/-- THE SECOND FORM's CARD OF 'chalklinelaw06.FormDoubleNegation'. -/
def formDoubleNegationUptoCard : Claim7 := { stood := { row := formDoubleNegationUptoRow, standIns := [], harness := (true, "a858cfff6ae89ef3f6d1dcc07a12fd9ca571db812b026a172a7b56265b0ae773"), looks := false }, kinds := [], alts := [], laidByText := true, laidKinds := [.data, .mapped, .mapped, .mapped, .mapped, .pinned], laidTests := true, laidLooks := .later }
def FormDoubleNegationUptoCardSaid : Prop := Claim7.holds Tryd.pinned (.plain (OpenSpec.upto formDoubleNegationSpec)) formDoubleNegationUptoCard

/-- THE SECOND FORM's CARD OF 'chalklinelaw06.FormCompositional'. -/
def formCompositionalUptoCard : Claim7 := { stood := { row := formCompositionalUptoRow, standIns := [], harness := (true, "a858cfff6ae89ef3f6d1dcc07a12fd9ca571db812b026a172a7b56265b0ae773"), looks := false }, kinds := [], alts := [], laidByText := true, laidKinds := [.data, .mapped, .mapped, .mapped, .mapped, .pinned], laidTests := true, laidLooks := .later }
def FormCompositionalUptoCardSaid : Prop := Claim7.holds Tryd.pinned (.plain (OpenSpec.upto formCompositionalSpec)) formCompositionalUptoCard

/-- THE SECOND FORM's CARD OF 'chalklinelaw06.FormBindsName'. -/
def formBindsNameUptoCard : Claim7 := { stood := { row := formBindsNameUptoRow, standIns := [], harness := (true, "a858cfff6ae89ef3f6d1dcc07a12fd9ca571db812b026a172a7b56265b0ae773"), looks := false }, kinds := [], alts := [], laidByText := true, laidKinds := [.data, .mapped, .mapped, .mapped, .mapped, .pinned], laidTests := true, laidLooks := .later }
def FormBindsNameUptoCardSaid : Prop := Claim7.holds Tryd.pinned (.plain (OpenSpec.upto formBindsNameSpec)) formBindsNameUptoCard

/-- THE SECOND FORM's CARD OF 'chalklinelaw06.FormSameExact'. -/
def formSameExactUptoCard : Claim7 := { stood := { row := formSameExactUptoRow, standIns := [], harness := (true, "a858cfff6ae89ef3f6d1dcc07a12fd9ca571db812b026a172a7b56265b0ae773"), looks := false }, kinds := [], alts := [], laidByText := true, laidKinds := [.data, .mapped, .mapped, .mapped, .mapped, .pinned], laidTests := true, laidLooks := .later }
def FormSameExactUptoCardSaid : Prop := Claim7.holds Tryd.pinned (.plain (OpenSpec.upto formSameExactSpec)) formSameExactUptoCard
end Rows
end Go.Proofs.YtkaadmkjjfcakaaDoor
