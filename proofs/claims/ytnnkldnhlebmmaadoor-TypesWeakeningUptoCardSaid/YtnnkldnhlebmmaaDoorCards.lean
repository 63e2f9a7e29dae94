/-
  DERIVED. GIVEN WITH THE SEED: THE CARDS: each row of YtnnkldnhlebmmaaDoorRows.lean that lists a variable, with what it lists TIED to the program's text (the seventh form; the later family's looks); each row that meets fmt, with fmt's text TOLD by the authors' own Lean function (tested against real Go, not proved from fmt's source: count such statements apart). THE CARD IS WHAT COUNTS. Prove the row's statement (the work); the ties are given (YtnnkldnhlebmmaaDoorTie.lean); close each card by the builder's one call (the guide's Derived/Test/ToyasCard.lean, 'card_holds'). Laid BY PROGRAM, IN A SANDBOX (cutbox-door.mjs). By AI agents, Wed Nov 11 2026. No macro, syntax, notation, axiom, sorry.
-/
import Derived.Test.YtnnkldnhlebmmaaDoorRows
import GoSem.ClaimSeven
namespace Go.Proofs.YtnnkldnhlebmmaaDoor
namespace Rows

/-- THE TIED CARD OF 'chalklinelaw08.TypesTerms'. -/
def typesTermsCard : Claim7 := { stood := { row := typesTermsRow, standIns := [], harness := (true, "fec6db6bf0a98896f5ddd5f45849fee3444d19c6a6afaeafed59da0d5b850087"), looks := false }, kinds := [], alts := [], laidByText := true, laidKinds := [.data, .mapped, .mapped, .mapped, .widerDeep, .data, .pinned], laidTests := true, laidLooks := .later }
def TypesTermsCardSaid : Prop := Claim7.holds Tryd.pinned (.plain (OpenSpec.ofChange typesTermsSpec)) typesTermsCard

/-- THE TIED CARD OF 'chalklinelaw08.TypesForms'. -/
def typesFormsCard : Claim7 := { stood := { row := typesFormsRow, standIns := [], harness := (true, "fec6db6bf0a98896f5ddd5f45849fee3444d19c6a6afaeafed59da0d5b850087"), looks := false }, kinds := [], alts := [], laidByText := true, laidKinds := [.data, .mapped, .mapped, .mapped, .widerDeep, .data, .pinned], laidTests := true, laidLooks := .later }
def TypesFormsCardSaid : Prop := Claim7.holds Tryd.pinned (.plain (OpenSpec.ofChange typesFormsSpec)) typesFormsCard

/-- THE TIED CARD OF 'chalklinelaw08.TypesRules'. -/
def typesRulesCard : Claim7 := { stood := { row := typesRulesRow, standIns := [], harness := (true, "fec6db6bf0a98896f5ddd5f45849fee3444d19c6a6afaeafed59da0d5b850087"), looks := false }, kinds := [], alts := [], laidByText := true, laidKinds := [.data, .mapped, .mapped, .mapped, .widerDeep, .data, .pinned], laidTests := true, laidLooks := .later }
def TypesRulesCardSaid : Prop := Claim7.holds Tryd.pinned (.plain (OpenSpec.ofChange typesRulesSpec)) typesRulesCard

/-- THE TIED CARD OF 'chalklinelaw08.TypesWeakening'. -/
def typesWeakeningCard : Claim7 := { stood := { row := typesWeakeningRow, standIns := [], harness := (true, "fec6db6bf0a98896f5ddd5f45849fee3444d19c6a6afaeafed59da0d5b850087"), looks := false }, kinds := [], alts := [], laidByText := true, laidKinds := [.data, .mapped, .mapped, .mapped, .widerDeep, .data, .pinned], laidTests := true, laidLooks := .later }
def TypesWeakeningCardSaid : Prop := Claim7.holds Tryd.pinned (.plain (OpenSpec.ofChange typesWeakeningSpec)) typesWeakeningCard

/-- THE TIED CARD OF 'chalklinelaw08.TypesQuantifiers'. -/
def typesQuantifiersCard : Claim7 := { stood := { row := typesQuantifiersRow, standIns := [], harness := (true, "fec6db6bf0a98896f5ddd5f45849fee3444d19c6a6afaeafed59da0d5b850087"), looks := false }, kinds := [], alts := [], laidByText := true, laidKinds := [.data, .mapped, .mapped, .mapped, .widerDeep, .data, .pinned], laidTests := true, laidLooks := .later }
def TypesQuantifiersCardSaid : Prop := Claim7.holds Tryd.pinned (.plain (OpenSpec.ofChange typesQuantifiersSpec)) typesQuantifiersCard

/-- THE TIED CARD OF 'chalklinelaw08.TypesConnectives'. -/
def typesConnectivesCard : Claim7 := { stood := { row := typesConnectivesRow, standIns := [], harness := (true, "fec6db6bf0a98896f5ddd5f45849fee3444d19c6a6afaeafed59da0d5b850087"), looks := false }, kinds := [], alts := [], laidByText := true, laidKinds := [.data, .mapped, .mapped, .mapped, .widerDeep, .data, .pinned], laidTests := true, laidLooks := .later }
def TypesConnectivesCardSaid : Prop := Claim7.holds Tryd.pinned (.plain (OpenSpec.ofChange typesConnectivesSpec)) typesConnectivesCard

/-- THE TIED CARD OF 'chalklinelaw08.TypesBodies'. -/
def typesBodiesCard : Claim7 := { stood := { row := typesBodiesRow, standIns := [], harness := (true, "fec6db6bf0a98896f5ddd5f45849fee3444d19c6a6afaeafed59da0d5b850087"), looks := false }, kinds := [], alts := [], laidByText := true, laidKinds := [.data, .mapped, .mapped, .mapped, .widerDeep, .data, .pinned], laidTests := true, laidLooks := .later }
def TypesBodiesCardSaid : Prop := Claim7.holds Tryd.pinned (.plain (OpenSpec.ofChange typesBodiesSpec)) typesBodiesCard

/-- THE TIED CARD OF 'chalklinelaw08.TypesFree'. -/
def typesFreeCard : Claim7 := { stood := { row := typesFreeRow, standIns := [], harness := (true, "fec6db6bf0a98896f5ddd5f45849fee3444d19c6a6afaeafed59da0d5b850087"), looks := false }, kinds := [], alts := [], laidByText := true, laidKinds := [.data, .mapped, .mapped, .mapped, .widerDeep, .data, .pinned], laidTests := true, laidLooks := .later }
def TypesFreeCardSaid : Prop := Claim7.holds Tryd.pinned (.plain (OpenSpec.ofChange typesFreeSpec)) typesFreeCard

/-- THE TIED CARD OF 'chalklinelaw08.TypesNnf'. -/
def typesNnfCard : Claim7 := { stood := { row := typesNnfRow, standIns := [], harness := (true, "fec6db6bf0a98896f5ddd5f45849fee3444d19c6a6afaeafed59da0d5b850087"), looks := false }, kinds := [], alts := [], laidByText := true, laidKinds := [.data, .mapped, .mapped, .mapped, .mapped, .widerDeep, .data, .pinned], laidTests := true, laidLooks := .later }
def TypesNnfCardSaid : Prop := Claim7.holds Tryd.pinned (.plain (OpenSpec.ofChange typesNnfSpec)) typesNnfCard

/-- THE SECOND FORM's CARD OF 'chalklinelaw08.TypesTerms'. -/
def typesTermsUptoCard : Claim7 := { stood := { row := typesTermsUptoRow, standIns := [], harness := (true, "fec6db6bf0a98896f5ddd5f45849fee3444d19c6a6afaeafed59da0d5b850087"), looks := false }, kinds := [], alts := [], laidByText := true, laidKinds := [.data, .mapped, .mapped, .mapped, .widerDeep, .data, .pinned], laidTests := true, laidLooks := .later }
def TypesTermsUptoCardSaid : Prop := Claim7.holds Tryd.pinned (.plain (OpenSpec.upto typesTermsSpec)) typesTermsUptoCard

/-- THE SECOND FORM's CARD OF 'chalklinelaw08.TypesForms'. -/
def typesFormsUptoCard : Claim7 := { stood := { row := typesFormsUptoRow, standIns := [], harness := (true, "fec6db6bf0a98896f5ddd5f45849fee3444d19c6a6afaeafed59da0d5b850087"), looks := false }, kinds := [], alts := [], laidByText := true, laidKinds := [.data, .mapped, .mapped, .mapped, .widerDeep, .data, .pinned], laidTests := true, laidLooks := .later }
def TypesFormsUptoCardSaid : Prop := Claim7.holds Tryd.pinned (.plain (OpenSpec.upto typesFormsSpec)) typesFormsUptoCard

/-- THE SECOND FORM's CARD OF 'chalklinelaw08.TypesRules'. -/
def typesRulesUptoCard : Claim7 := { stood := { row := typesRulesUptoRow, standIns := [], harness := (true, "fec6db6bf0a98896f5ddd5f45849fee3444d19c6a6afaeafed59da0d5b850087"), looks := false }, kinds := [], alts := [], laidByText := true, laidKinds := [.data, .mapped, .mapped, .mapped, .widerDeep, .data, .pinned], laidTests := true, laidLooks := .later }
def TypesRulesUptoCardSaid : Prop := Claim7.holds Tryd.pinned (.plain (OpenSpec.upto typesRulesSpec)) typesRulesUptoCard

/-- THE SECOND FORM's CARD OF 'chalklinelaw08.TypesWeakening'. -/
def typesWeakeningUptoCard : Claim7 := { stood := { row := typesWeakeningUptoRow, standIns := [], harness := (true, "fec6db6bf0a98896f5ddd5f45849fee3444d19c6a6afaeafed59da0d5b850087"), looks := false }, kinds := [], alts := [], laidByText := true, laidKinds := [.data, .mapped, .mapped, .mapped, .widerDeep, .data, .pinned], laidTests := true, laidLooks := .later }
def TypesWeakeningUptoCardSaid : Prop := Claim7.holds Tryd.pinned (.plain (OpenSpec.upto typesWeakeningSpec)) typesWeakeningUptoCard

/-- THE SECOND FORM's CARD OF 'chalklinelaw08.TypesQuantifiers'. -/
def typesQuantifiersUptoCard : Claim7 := { stood := { row := typesQuantifiersUptoRow, standIns := [], harness := (true, "fec6db6bf0a98896f5ddd5f45849fee3444d19c6a6afaeafed59da0d5b850087"), looks := false }, kinds := [], alts := [], laidByText := true, laidKinds := [.data, .mapped, .mapped, .mapped, .widerDeep, .data, .pinned], laidTests := true, laidLooks := .later }
def TypesQuantifiersUptoCardSaid : Prop := Claim7.holds Tryd.pinned (.plain (OpenSpec.upto typesQuantifiersSpec)) typesQuantifiersUptoCard

/-- THE SECOND FORM's CARD OF 'chalklinelaw08.TypesConnectives'. -/
def typesConnectivesUptoCard : Claim7 := { stood := { row := typesConnectivesUptoRow, standIns := [], harness := (true, "fec6db6bf0a98896f5ddd5f45849fee3444d19c6a6afaeafed59da0d5b850087"), looks := false }, kinds := [], alts := [], laidByText := true, laidKinds := [.data, .mapped, .mapped, .mapped, .widerDeep, .data, .pinned], laidTests := true, laidLooks := .later }
def TypesConnectivesUptoCardSaid : Prop := Claim7.holds Tryd.pinned (.plain (OpenSpec.upto typesConnectivesSpec)) typesConnectivesUptoCard

/-- THE SECOND FORM's CARD OF 'chalklinelaw08.TypesBodies'. -/
def typesBodiesUptoCard : Claim7 := { stood := { row := typesBodiesUptoRow, standIns := [], harness := (true, "fec6db6bf0a98896f5ddd5f45849fee3444d19c6a6afaeafed59da0d5b850087"), looks := false }, kinds := [], alts := [], laidByText := true, laidKinds := [.data, .mapped, .mapped, .mapped, .widerDeep, .data, .pinned], laidTests := true, laidLooks := .later }
def TypesBodiesUptoCardSaid : Prop := Claim7.holds Tryd.pinned (.plain (OpenSpec.upto typesBodiesSpec)) typesBodiesUptoCard

/-- THE SECOND FORM's CARD OF 'chalklinelaw08.TypesFree'. -/
def typesFreeUptoCard : Claim7 := { stood := { row := typesFreeUptoRow, standIns := [], harness := (true, "fec6db6bf0a98896f5ddd5f45849fee3444d19c6a6afaeafed59da0d5b850087"), looks := false }, kinds := [], alts := [], laidByText := true, laidKinds := [.data, .mapped, .mapped, .mapped, .widerDeep, .data, .pinned], laidTests := true, laidLooks := .later }
def TypesFreeUptoCardSaid : Prop := Claim7.holds Tryd.pinned (.plain (OpenSpec.upto typesFreeSpec)) typesFreeUptoCard

/-- THE SECOND FORM's CARD OF 'chalklinelaw08.TypesNnf'. -/
def typesNnfUptoCard : Claim7 := { stood := { row := typesNnfUptoRow, standIns := [], harness := (true, "fec6db6bf0a98896f5ddd5f45849fee3444d19c6a6afaeafed59da0d5b850087"), looks := false }, kinds := [], alts := [], laidByText := true, laidKinds := [.data, .mapped, .mapped, .mapped, .mapped, .widerDeep, .data, .pinned], laidTests := true, laidLooks := .later }
def TypesNnfUptoCardSaid : Prop := Claim7.holds Tryd.pinned (.plain (OpenSpec.upto typesNnfSpec)) typesNnfUptoCard
end Rows
end Go.Proofs.YtnnkldnhlebmmaaDoor
