/-
  DERIVED. GIVEN WITH THE SEED: THE CARDS: each row of YtfegegkkdfkllaaGreatDoorRows.lean that lists a variable, with what it lists TIED to the program's text (the seventh form; the later family's looks); each row that meets fmt, with fmt's text TOLD by the authors' own Lean function (tested against real Go, not proved from fmt's source: count such statements apart). THE CARD IS WHAT COUNTS. Prove the row's statement (the work); the ties are given (YtfegegkkdfkllaaGreatDoorTie.lean); close each card by the builder's one call (the guide's Derived/Test/ToyasCard.lean, 'card_holds'). Laid BY PROGRAM, IN A SANDBOX (cutbox-door.mjs). By AI agents, Wed Nov 11 2026. No macro, syntax, notation, axiom, sorry.
-/
import Derived.Test.YtfegegkkdfkllaaGreatDoorRows
import GoSem.ClaimSeven
namespace Go.Proofs.YtfegegkkdfkllaaGreatDoor
namespace Rows

/-- THE TIED CARD OF 'chalklinelaw37.AuditWeekSpec'. -/
def auditWeekSpecCard : Claim7 := { stood := { row := auditWeekSpecRow, standIns := [], harness := (true, "297658dd5554103d06c93aa405e78d2876388029558add29cbe4c190c2ec629c"), looks := false }, kinds := [], alts := [], laidByText := true, laidKinds := [.data, .data, .data, .data, .mapped, .mapped, .mapped, .widerDeep, .data, .funcs, .funcs, .funcs, .pinned], laidTests := true, laidLooks := .later }
def AuditWeekSpecCardSaid : Prop := Claim7.holds Tryz.pinned (.plain (OpenSpec.ofChange auditWeekSpecSpec)) auditWeekSpecCard

/-- THE TIED CARD OF 'chalklinelaw37.AuditBestExists'. -/
def auditBestExistsCard : Claim7 := { stood := { row := auditBestExistsRow, standIns := [], harness := (true, "297658dd5554103d06c93aa405e78d2876388029558add29cbe4c190c2ec629c"), looks := false }, kinds := [], alts := [], laidByText := true, laidKinds := [.data, .data, .data, .data, .mapped, .mapped, .mapped, .widerDeep, .data, .funcs, .funcs, .funcs, .pinned], laidTests := true, laidLooks := .later }
def AuditBestExistsCardSaid : Prop := Claim7.holds Tryz.pinned (.plain (OpenSpec.ofChange auditBestExistsSpec)) auditBestExistsCard

/-- THE SECOND FORM's CARD OF 'chalklinelaw37.AuditWeekSpec'. -/
def auditWeekSpecUptoCard : Claim7 := { stood := { row := auditWeekSpecUptoRow, standIns := [], harness := (true, "297658dd5554103d06c93aa405e78d2876388029558add29cbe4c190c2ec629c"), looks := false }, kinds := [], alts := [], laidByText := true, laidKinds := [.data, .data, .data, .data, .mapped, .mapped, .mapped, .widerDeep, .data, .funcs, .funcs, .funcs, .pinned], laidTests := true, laidLooks := .later }
def AuditWeekSpecUptoCardSaid : Prop := Claim7.holds Tryz.pinned (.plain (OpenSpec.upto auditWeekSpecSpec)) auditWeekSpecUptoCard

/-- THE SECOND FORM's CARD OF 'chalklinelaw37.AuditBestExists'. -/
def auditBestExistsUptoCard : Claim7 := { stood := { row := auditBestExistsUptoRow, standIns := [], harness := (true, "297658dd5554103d06c93aa405e78d2876388029558add29cbe4c190c2ec629c"), looks := false }, kinds := [], alts := [], laidByText := true, laidKinds := [.data, .data, .data, .data, .mapped, .mapped, .mapped, .widerDeep, .data, .funcs, .funcs, .funcs, .pinned], laidTests := true, laidLooks := .later }
def AuditBestExistsUptoCardSaid : Prop := Claim7.holds Tryz.pinned (.plain (OpenSpec.upto auditBestExistsSpec)) auditBestExistsUptoCard
end Rows
end Go.Proofs.YtfegegkkdfkllaaGreatDoor
