/-
  NARROWER THAN 'FOR EVERY INPUT', by the rows' own cells (each row's printed sentence says how): TypesTerms: laid · TypesForms: loops, laid · TypesRules: loops, laid · TypesWeakening: loops, laid · TypesQuantifiers: loops, laid · TypesConnectives: loops, laid · TypesBodies: loops, laid · TypesFree: loops, laid · TypesNnf: loops, laid.
  DERIVED. THE GIVEN ROWS OF THIS SEAT. 9 by the template 'for every input the law returns true; each argument reads behind the call as it read before'; 0 by the template 'total and deterministic' (their statements: YtnnkldnhlebmmaaDoorTotals.lean).
  GIVEN WITH THE SEED: the statements are not yours to turn. If you find one false, say at which input.
  Laid BY PROGRAM, IN A SANDBOX (cutbox-rows.mjs): the forced cells as the released guide's own fill.sh prints them over the translation 417e089fe673342d… (all of the seat's roots in one cut). By AI agents, Wed Nov 11 2026. No macro, syntax, notation, axiom, sorry.
-/
import Derived.Test.YtnnkldnhlebmmaaDoorChecked
import GoSem.PinnedTables
import GoSem.Claim
import GoSem.ClaimJoined
import GoSem.ClaimMapViews
import Derived.JoinedTies
import Derived.KernelRfl
namespace Go.Proofs.YtnnkldnhlebmmaaDoor
/- THE CELL 'sum', in the pinned program and in every row, IS THE sha256 OF THE DUMP (.gsa) THAT YtnnkldnhlebmmaaDoorProg.lean LOADS. Nothing in Lean hashes anything: it is a label: what it is worth is what the hold of that sum in a sandbox is worth. -/
noncomputable def Tryd.pinned : Pinned := { name := "ytnnkldnhlebmmaadoor", sum := "417e089fe673342dc86b9a81c5cb37949ffbdda528ab13d3474356387ba8f145", checked := Tryd.checked }
namespace Rows
def none {H : Type} : Left H := { results := [], args := [] }

/- WHAT THE LISTED PACKAGE-LEVEL VARIABLES READ AS WHEN THE CALL BEGINS. Each datum BY PROGRAM (the guide's laid-datum.mjs) off the statement by which the dump's own 'gosem.cut.vars' lays the variable. In a bare row this is a premise. The card (YtnnkldnhlebmmaaDoorCards.lean) ties it to the program's text. -/
def laid_unicode_utf8_acceptRanges {H : Type} : DataW H := .agg [.agg [.lit (.int .u8 128), .lit (.int .u8 191)], .agg [.lit (.int .u8 160), .lit (.int .u8 191)], .agg [.lit (.int .u8 128), .lit (.int .u8 159)], .agg [.lit (.int .u8 144), .lit (.int .u8 191)], .agg [.lit (.int .u8 128), .lit (.int .u8 143)], .agg [.lit (.int .u8 0), .lit (.int .u8 0)], .agg [.lit (.int .u8 0), .lit (.int .u8 0)], .agg [.lit (.int .u8 0), .lit (.int .u8 0)], .agg [.lit (.int .u8 0), .lit (.int .u8 0)], .agg [.lit (.int .u8 0), .lit (.int .u8 0)], .agg [.lit (.int .u8 0), .lit (.int .u8 0)], .agg [.lit (.int .u8 0), .lit (.int .u8 0)], .agg [.lit (.int .u8 0), .lit (.int .u8 0)], .agg [.lit (.int .u8 0), .lit (.int .u8 0)], .agg [.lit (.int .u8 0), .lit (.int .u8 0)], .agg [.lit (.int .u8 0), .lit (.int .u8 0)]]
def laid_chalkline_formula_reserved {H : Type} : DataW H := .map [(.string [97, 108, 108], .lit (.bool true)), (.string [97, 116], .lit (.bool true)), (.string [97, 116, 116, 101, 110, 100, 115], .lit (.bool true)), (.string [97, 119, 97, 121], .lit (.bool true)), (.string [100, 97, 121], .lit (.bool true)), (.string [101, 97, 99, 104], .lit (.bool true)), (.string [102, 97, 108, 115, 101], .lit (.bool true)), (.string [103, 114, 111, 117, 112], .lit (.bool true)), (.string [104, 97, 114, 100], .lit (.bool true)), (.string [104, 111, 117, 114], .lit (.bool true)), (.string [104, 111, 117, 115, 101], .lit (.bool true)), (.string [105, 110], .lit (.bool true)), (.string [108, 101, 97, 115, 116], .lit (.bool true)), (.string [108, 101, 115, 115, 111, 110], .lit (.bool true)), (.string [109, 111, 115, 116], .lit (.bool true)), (.string [112, 101, 114, 115, 111, 110], .lit (.bool true)), (.string [114, 111, 111, 109], .lit (.bool true)), (.string [115, 101, 97, 116, 115], .lit (.bool true)), (.string [115, 104, 117, 116], .lit (.bool true)), (.string [115, 105, 122, 101], .lit (.bool true)), (.string [115, 108, 111, 116], .lit (.bool true)), (.string [115, 111, 102, 116], .lit (.bool true)), (.string [115, 111, 109, 101], .lit (.bool true)), (.string [116, 101, 97, 99, 104, 101, 115], .lit (.bool true)), (.string [116, 114, 117, 101], .lit (.bool true))]
def laid_chalkline_formula_signs {H : Type} : DataW H := .map [(.string [33, 61], .lit (.string [61])), (.string [60], .lit (.string [62, 61])), (.string [60, 61], .lit (.string [62])), (.string [61], .lit (.string [33, 61])), (.string [62], .lit (.string [60, 61])), (.string [62, 61], .lit (.string [60]))]
def laid_chalkline_formula_arity {H : Type} : DataW H := .map [(.int .i64 1, .lit (.int .i64 0)), (.int .i64 2, .lit (.int .i64 0)), (.int .i64 3, .lit (.int .i64 0)), (.int .i64 4, .lit (.int .i64 0)), (.int .i64 5, .lit (.int .i64 0)), (.int .i64 6, .lit (.int .i64 0)), (.int .i64 7, .lit (.int .i64 0)), (.int .i64 8, .lit (.int .i64 0)), (.int .i64 9, .lit (.int .i64 0)), (.int .i64 10, .lit (.int .i64 1)), (.int .i64 11, .lit (.int .i64 2)), (.int .i64 12, .lit (.int .i64 2)), (.int .i64 13, .lit (.int .i64 2)), (.int .i64 14, .lit (.int .i64 1)), (.int .i64 15, .lit (.int .i64 1)), (.int .i64 16, .lit (.int .i64 1)), (.int .i64 17, .lit (.int .i64 1))]
def laid_chalkline_types_asks {H : Type} : DataW H := .agg [.agg [.lit (.int .i64 0), .lit (.int .i64 0)], .agg [.lit (.int .i64 0), .lit (.int .i64 0)], .agg [.lit (.int .i64 0), .lit (.int .i64 0)], .agg [.lit (.int .i64 1), .lit (.int .i64 2)], .agg [.lit (.int .i64 1), .lit (.int .i64 3)], .agg [.lit (.int .i64 4), .lit (.int .i64 1)], .agg [.lit (.int .i64 5), .lit (.int .i64 1)], .agg [.lit (.int .i64 4), .lit (.int .i64 2)], .agg [.lit (.int .i64 3), .lit (.int .i64 2)]]
def laid_chalkline_types_takes {H : Type} : DataW H := .agg [.agg [.lit (.int .i64 0), .lit (.int .i64 0)], .agg [.lit (.int .i64 0), .lit (.int .i64 0)], .agg [.lit (.int .i64 0), .lit (.int .i64 0)], .agg [.lit (.int .i64 2), .lit (.int .i64 6)], .agg [.lit (.int .i64 2), .lit (.int .i64 8)], .agg [.lit (.int .i64 3), .lit (.int .i64 7)], .agg [.lit (.int .i64 3), .lit (.int .i64 8)], .agg [.lit (.int .i64 1), .lit (.int .i64 8)]]
/-- One of Go's own tables, pinned by name: the form's constant. -/
def laid_unicode_utf8_first : DataW Unit := Go.Pinned.utf8First
def laid_chalkline_formula_duals {H : Type} : DataW H := .map [(.int .i64 1, .lit (.int .i64 2)), (.int .i64 2, .lit (.int .i64 1)), (.int .i64 11, .lit (.int .i64 12)), (.int .i64 12, .lit (.int .i64 11)), (.int .i64 14, .lit (.int .i64 15)), (.int .i64 15, .lit (.int .i64 14)), (.int .i64 16, .lit (.int .i64 17)), (.int .i64 17, .lit (.int .i64 16))]

/-- 'chalklinelaw08.TypesTerms': WHATEVER THE INPUT: true; the input reads as it did. -/
def typesTermsSpec : ChangeSpec := { name := "typesTerms", fn := fun _ => fun
  | [d1, d2] => { results := [.lit (.bool true)], args := [d1, d2] }
  | _ => none }
def typesTermsRow : OpenClaim := { program := "ytnnkldnhlebmmaadoor", sum := "417e089fe673342dc86b9a81c5cb37949ffbdda528ab13d3474356387ba8f145", func := "chalkline/chalklinelaw08.TypesTerms", spec := "typesTerms", inPlace := ["internal/bytealg.IndexByteString", "internal/bytealg.IndexString"], unfollowed := true, recurses := true, named := ["chalkline/formula.arity", "chalkline/formula.signs", "chalkline/formula.reserved", "unicode/utf8.first", "unicode/utf8.acceptRanges", "chalkline/types.takes", "chalkline/types.asks", "internal/bytealg.MaxLen"], apart := false, laid := [("unicode/utf8.acceptRanges", laid_unicode_utf8_acceptRanges), ("chalkline/formula.reserved", laid_chalkline_formula_reserved), ("chalkline/formula.signs", laid_chalkline_formula_signs), ("chalkline/formula.arity", laid_chalkline_formula_arity), ("chalkline/types.asks", laid_chalkline_types_asks), ("chalkline/types.takes", laid_chalkline_types_takes), ("unicode/utf8.first", laid_unicode_utf8_first)] }
def TypesTermsSaid : Prop := typesTermsRow.holds Tryd.pinned (OpenSpec.ofChange typesTermsSpec)

/-- ITS FALSE NEIGHBOUR: 'it returns false'. Refute it at one input. -/
def typesTermsWrong : ChangeSpec := { name := "typesTerms", fn := fun _ => fun
  | [d1, d2] => { results := [.lit (.bool false)], args := [d1, d2] }
  | _ => none }
def TypesTermsWrongFalsely : Prop := typesTermsRow.holds Tryd.pinned (OpenSpec.ofChange typesTermsWrong)

/-- 'chalklinelaw08.TypesForms': WHATEVER THE INPUT: true; the input reads as it did. -/
def typesFormsSpec : ChangeSpec := { name := "typesForms", fn := fun _ => fun
  | [d1, d2] => { results := [.lit (.bool true)], args := [d1, d2] }
  | _ => none }
def typesFormsRow : OpenClaim := { program := "ytnnkldnhlebmmaadoor", sum := "417e089fe673342dc86b9a81c5cb37949ffbdda528ab13d3474356387ba8f145", func := "chalkline/chalklinelaw08.TypesForms", spec := "typesForms", inPlace := ["internal/bytealg.IndexByteString", "internal/bytealg.IndexString"], unfollowed := true, recurses := true, named := ["chalkline/formula.arity", "chalkline/formula.signs", "chalkline/formula.reserved", "unicode/utf8.first", "unicode/utf8.acceptRanges", "chalkline/types.takes", "chalkline/types.asks", "internal/bytealg.MaxLen"], loops := true, apart := false, laid := [("unicode/utf8.acceptRanges", laid_unicode_utf8_acceptRanges), ("chalkline/formula.reserved", laid_chalkline_formula_reserved), ("chalkline/formula.signs", laid_chalkline_formula_signs), ("chalkline/formula.arity", laid_chalkline_formula_arity), ("chalkline/types.asks", laid_chalkline_types_asks), ("chalkline/types.takes", laid_chalkline_types_takes), ("unicode/utf8.first", laid_unicode_utf8_first)] }
def TypesFormsSaid : Prop := typesFormsRow.holds Tryd.pinned (OpenSpec.ofChange typesFormsSpec)

/-- ITS FALSE NEIGHBOUR: 'it returns false'. Refute it at one input. -/
def typesFormsWrong : ChangeSpec := { name := "typesForms", fn := fun _ => fun
  | [d1, d2] => { results := [.lit (.bool false)], args := [d1, d2] }
  | _ => none }
def TypesFormsWrongFalsely : Prop := typesFormsRow.holds Tryd.pinned (OpenSpec.ofChange typesFormsWrong)

/-- 'chalklinelaw08.TypesRules': WHATEVER THE INPUT: true; the input reads as it did. -/
def typesRulesSpec : ChangeSpec := { name := "typesRules", fn := fun _ => fun
  | [d] => { results := [.lit (.bool true)], args := [d] }
  | _ => none }
def typesRulesRow : OpenClaim := { program := "ytnnkldnhlebmmaadoor", sum := "417e089fe673342dc86b9a81c5cb37949ffbdda528ab13d3474356387ba8f145", func := "chalkline/chalklinelaw08.TypesRules", spec := "typesRules", inPlace := ["internal/bytealg.IndexByteString", "internal/bytealg.IndexString"], unfollowed := true, recurses := true, named := ["chalkline/formula.arity", "chalkline/formula.signs", "chalkline/formula.reserved", "unicode/utf8.first", "unicode/utf8.acceptRanges", "chalkline/types.takes", "chalkline/types.asks", "internal/bytealg.MaxLen"], loops := true, apart := false, laid := [("unicode/utf8.acceptRanges", laid_unicode_utf8_acceptRanges), ("chalkline/formula.reserved", laid_chalkline_formula_reserved), ("chalkline/formula.signs", laid_chalkline_formula_signs), ("chalkline/formula.arity", laid_chalkline_formula_arity), ("chalkline/types.asks", laid_chalkline_types_asks), ("chalkline/types.takes", laid_chalkline_types_takes), ("unicode/utf8.first", laid_unicode_utf8_first)] }
def TypesRulesSaid : Prop := typesRulesRow.holds Tryd.pinned (OpenSpec.ofChange typesRulesSpec)

/-- ITS FALSE NEIGHBOUR: 'it returns false'. Refute it at one input. -/
def typesRulesWrong : ChangeSpec := { name := "typesRules", fn := fun _ => fun
  | [d] => { results := [.lit (.bool false)], args := [d] }
  | _ => none }
def TypesRulesWrongFalsely : Prop := typesRulesRow.holds Tryd.pinned (OpenSpec.ofChange typesRulesWrong)

/-- 'chalklinelaw08.TypesWeakening': WHATEVER THE INPUT: true; the input reads as it did. -/
def typesWeakeningSpec : ChangeSpec := { name := "typesWeakening", fn := fun _ => fun
  | [d1, d2, d3] => { results := [.lit (.bool true)], args := [d1, d2, d3] }
  | _ => none }
def typesWeakeningRow : OpenClaim := { program := "ytnnkldnhlebmmaadoor", sum := "417e089fe673342dc86b9a81c5cb37949ffbdda528ab13d3474356387ba8f145", func := "chalkline/chalklinelaw08.TypesWeakening", spec := "typesWeakening", inPlace := ["internal/bytealg.IndexByteString", "internal/bytealg.IndexString"], unfollowed := true, recurses := true, named := ["chalkline/formula.arity", "chalkline/formula.signs", "chalkline/formula.reserved", "unicode/utf8.first", "unicode/utf8.acceptRanges", "chalkline/types.takes", "chalkline/types.asks", "internal/bytealg.MaxLen"], loops := true, apart := false, laid := [("unicode/utf8.acceptRanges", laid_unicode_utf8_acceptRanges), ("chalkline/formula.reserved", laid_chalkline_formula_reserved), ("chalkline/formula.signs", laid_chalkline_formula_signs), ("chalkline/formula.arity", laid_chalkline_formula_arity), ("chalkline/types.asks", laid_chalkline_types_asks), ("chalkline/types.takes", laid_chalkline_types_takes), ("unicode/utf8.first", laid_unicode_utf8_first)] }
def TypesWeakeningSaid : Prop := typesWeakeningRow.holds Tryd.pinned (OpenSpec.ofChange typesWeakeningSpec)

/-- ITS FALSE NEIGHBOUR: 'it returns false'. Refute it at one input. -/
def typesWeakeningWrong : ChangeSpec := { name := "typesWeakening", fn := fun _ => fun
  | [d1, d2, d3] => { results := [.lit (.bool false)], args := [d1, d2, d3] }
  | _ => none }
def TypesWeakeningWrongFalsely : Prop := typesWeakeningRow.holds Tryd.pinned (OpenSpec.ofChange typesWeakeningWrong)

/-- 'chalklinelaw08.TypesQuantifiers': WHATEVER THE INPUT: true; the input reads as it did. -/
def typesQuantifiersSpec : ChangeSpec := { name := "typesQuantifiers", fn := fun _ => fun
  | [d1, d2, d3, d4, d5] => { results := [.lit (.bool true)], args := [d1, d2, d3, d4, d5] }
  | _ => none }
def typesQuantifiersRow : OpenClaim := { program := "ytnnkldnhlebmmaadoor", sum := "417e089fe673342dc86b9a81c5cb37949ffbdda528ab13d3474356387ba8f145", func := "chalkline/chalklinelaw08.TypesQuantifiers", spec := "typesQuantifiers", inPlace := ["internal/bytealg.IndexByteString", "internal/bytealg.IndexString"], unfollowed := true, recurses := true, named := ["chalkline/formula.arity", "chalkline/formula.signs", "chalkline/formula.reserved", "unicode/utf8.first", "unicode/utf8.acceptRanges", "chalkline/types.takes", "chalkline/types.asks", "internal/bytealg.MaxLen"], loops := true, apart := false, laid := [("unicode/utf8.acceptRanges", laid_unicode_utf8_acceptRanges), ("chalkline/formula.reserved", laid_chalkline_formula_reserved), ("chalkline/formula.signs", laid_chalkline_formula_signs), ("chalkline/formula.arity", laid_chalkline_formula_arity), ("chalkline/types.asks", laid_chalkline_types_asks), ("chalkline/types.takes", laid_chalkline_types_takes), ("unicode/utf8.first", laid_unicode_utf8_first)] }
def TypesQuantifiersSaid : Prop := typesQuantifiersRow.holds Tryd.pinned (OpenSpec.ofChange typesQuantifiersSpec)

/-- ITS FALSE NEIGHBOUR: 'it returns false'. Refute it at one input. -/
def typesQuantifiersWrong : ChangeSpec := { name := "typesQuantifiers", fn := fun _ => fun
  | [d1, d2, d3, d4, d5] => { results := [.lit (.bool false)], args := [d1, d2, d3, d4, d5] }
  | _ => none }
def TypesQuantifiersWrongFalsely : Prop := typesQuantifiersRow.holds Tryd.pinned (OpenSpec.ofChange typesQuantifiersWrong)

/-- 'chalklinelaw08.TypesConnectives': WHATEVER THE INPUT: true; the input reads as it did. -/
def typesConnectivesSpec : ChangeSpec := { name := "typesConnectives", fn := fun _ => fun
  | [d1, d2, d3, d4] => { results := [.lit (.bool true)], args := [d1, d2, d3, d4] }
  | _ => none }
def typesConnectivesRow : OpenClaim := { program := "ytnnkldnhlebmmaadoor", sum := "417e089fe673342dc86b9a81c5cb37949ffbdda528ab13d3474356387ba8f145", func := "chalkline/chalklinelaw08.TypesConnectives", spec := "typesConnectives", inPlace := ["internal/bytealg.IndexByteString", "internal/bytealg.IndexString"], unfollowed := true, recurses := true, named := ["chalkline/formula.arity", "chalkline/formula.signs", "chalkline/formula.reserved", "unicode/utf8.first", "unicode/utf8.acceptRanges", "chalkline/types.takes", "chalkline/types.asks", "internal/bytealg.MaxLen"], loops := true, apart := false, laid := [("unicode/utf8.acceptRanges", laid_unicode_utf8_acceptRanges), ("chalkline/formula.reserved", laid_chalkline_formula_reserved), ("chalkline/formula.signs", laid_chalkline_formula_signs), ("chalkline/formula.arity", laid_chalkline_formula_arity), ("chalkline/types.asks", laid_chalkline_types_asks), ("chalkline/types.takes", laid_chalkline_types_takes), ("unicode/utf8.first", laid_unicode_utf8_first)] }
def TypesConnectivesSaid : Prop := typesConnectivesRow.holds Tryd.pinned (OpenSpec.ofChange typesConnectivesSpec)

/-- ITS FALSE NEIGHBOUR: 'it returns false'. Refute it at one input. -/
def typesConnectivesWrong : ChangeSpec := { name := "typesConnectives", fn := fun _ => fun
  | [d1, d2, d3, d4] => { results := [.lit (.bool false)], args := [d1, d2, d3, d4] }
  | _ => none }
def TypesConnectivesWrongFalsely : Prop := typesConnectivesRow.holds Tryd.pinned (OpenSpec.ofChange typesConnectivesWrong)

/-- 'chalklinelaw08.TypesBodies': WHATEVER THE INPUT: true; the input reads as it did. -/
def typesBodiesSpec : ChangeSpec := { name := "typesBodies", fn := fun _ => fun
  | [d] => { results := [.lit (.bool true)], args := [d] }
  | _ => none }
def typesBodiesRow : OpenClaim := { program := "ytnnkldnhlebmmaadoor", sum := "417e089fe673342dc86b9a81c5cb37949ffbdda528ab13d3474356387ba8f145", func := "chalkline/chalklinelaw08.TypesBodies", spec := "typesBodies", inPlace := ["internal/bytealg.IndexByteString", "internal/bytealg.IndexString"], unfollowed := true, recurses := true, named := ["chalkline/formula.arity", "chalkline/formula.signs", "chalkline/formula.reserved", "unicode/utf8.first", "unicode/utf8.acceptRanges", "chalkline/types.takes", "chalkline/types.asks", "internal/bytealg.MaxLen"], loops := true, apart := false, laid := [("unicode/utf8.acceptRanges", laid_unicode_utf8_acceptRanges), ("chalkline/formula.reserved", laid_chalkline_formula_reserved), ("chalkline/formula.signs", laid_chalkline_formula_signs), ("chalkline/formula.arity", laid_chalkline_formula_arity), ("chalkline/types.asks", laid_chalkline_types_asks), ("chalkline/types.takes", laid_chalkline_types_takes), ("unicode/utf8.first", laid_unicode_utf8_first)] }
def TypesBodiesSaid : Prop := typesBodiesRow.holds Tryd.pinned (OpenSpec.ofChange typesBodiesSpec)

/-- ITS FALSE NEIGHBOUR: 'it returns false'. Refute it at one input. -/
def typesBodiesWrong : ChangeSpec := { name := "typesBodies", fn := fun _ => fun
  | [d] => { results := [.lit (.bool false)], args := [d] }
  | _ => none }
def TypesBodiesWrongFalsely : Prop := typesBodiesRow.holds Tryd.pinned (OpenSpec.ofChange typesBodiesWrong)

/-- 'chalklinelaw08.TypesFree': WHATEVER THE INPUT: true; the input reads as it did. -/
def typesFreeSpec : ChangeSpec := { name := "typesFree", fn := fun _ => fun
  | [d1, d2, d3] => { results := [.lit (.bool true)], args := [d1, d2, d3] }
  | _ => none }
def typesFreeRow : OpenClaim := { program := "ytnnkldnhlebmmaadoor", sum := "417e089fe673342dc86b9a81c5cb37949ffbdda528ab13d3474356387ba8f145", func := "chalkline/chalklinelaw08.TypesFree", spec := "typesFree", inPlace := ["internal/bytealg.IndexByteString", "internal/bytealg.IndexString"], unfollowed := true, recurses := true, named := ["chalkline/formula.arity", "chalkline/formula.signs", "chalkline/formula.reserved", "unicode/utf8.first", "unicode/utf8.acceptRanges", "chalkline/types.takes", "chalkline/types.asks", "internal/bytealg.MaxLen"], loops := true, apart := false, laid := [("unicode/utf8.acceptRanges", laid_unicode_utf8_acceptRanges), ("chalkline/formula.reserved", laid_chalkline_formula_reserved), ("chalkline/formula.signs", laid_chalkline_formula_signs), ("chalkline/formula.arity", laid_chalkline_formula_arity), ("chalkline/types.asks", laid_chalkline_types_asks), ("chalkline/types.takes", laid_chalkline_types_takes), ("unicode/utf8.first", laid_unicode_utf8_first)] }
def TypesFreeSaid : Prop := typesFreeRow.holds Tryd.pinned (OpenSpec.ofChange typesFreeSpec)

/-- ITS FALSE NEIGHBOUR: 'it returns false'. Refute it at one input. -/
def typesFreeWrong : ChangeSpec := { name := "typesFree", fn := fun _ => fun
  | [d1, d2, d3] => { results := [.lit (.bool false)], args := [d1, d2, d3] }
  | _ => none }
def TypesFreeWrongFalsely : Prop := typesFreeRow.holds Tryd.pinned (OpenSpec.ofChange typesFreeWrong)

/-- 'chalklinelaw08.TypesNnf': WHATEVER THE INPUT: true; the input reads as it did. -/
def typesNnfSpec : ChangeSpec := { name := "typesNnf", fn := fun _ => fun
  | [d1, d2] => { results := [.lit (.bool true)], args := [d1, d2] }
  | _ => none }
def typesNnfRow : OpenClaim := { program := "ytnnkldnhlebmmaadoor", sum := "417e089fe673342dc86b9a81c5cb37949ffbdda528ab13d3474356387ba8f145", func := "chalkline/chalklinelaw08.TypesNnf", spec := "typesNnf", inPlace := ["internal/bytealg.IndexByteString", "internal/bytealg.IndexString"], unfollowed := true, recurses := true, named := ["chalkline/formula.arity", "chalkline/formula.signs", "chalkline/formula.reserved", "unicode/utf8.first", "unicode/utf8.acceptRanges", "chalkline/types.takes", "chalkline/types.asks", "chalkline/formula.duals", "internal/bytealg.MaxLen"], loops := true, apart := false, laid := [("unicode/utf8.acceptRanges", laid_unicode_utf8_acceptRanges), ("chalkline/formula.reserved", laid_chalkline_formula_reserved), ("chalkline/formula.duals", laid_chalkline_formula_duals), ("chalkline/formula.signs", laid_chalkline_formula_signs), ("chalkline/formula.arity", laid_chalkline_formula_arity), ("chalkline/types.asks", laid_chalkline_types_asks), ("chalkline/types.takes", laid_chalkline_types_takes), ("unicode/utf8.first", laid_unicode_utf8_first)] }
def TypesNnfSaid : Prop := typesNnfRow.holds Tryd.pinned (OpenSpec.ofChange typesNnfSpec)

/-- ITS FALSE NEIGHBOUR: 'it returns false'. Refute it at one input. -/
def typesNnfWrong : ChangeSpec := { name := "typesNnf", fn := fun _ => fun
  | [d1, d2] => { results := [.lit (.bool false)], args := [d1, d2] }
  | _ => none }
def TypesNnfWrongFalsely : Prop := typesNnfRow.holds Tryd.pinned (OpenSpec.ofChange typesNnfWrong)

/- THE SECOND FORM. 'bulk': how many values and letters a reading holds, each counted each time it is reached (what is shared counts as often as it is met; a slice's spare places count too). A statement '..UptoSaid' is the law's where the arguments, and the package variables that the reading takes, are together of bulk at most 1048576: NARROWER than '..Said'. Prove '..Said' where nothing that the law and all that it calls make is longer than what came in: it says more and counts as full. Else prove '..UptoSaid'. A law counts once. -/
mutual
def uptoBulk {H : Type} : DataW H → Nat
  | .lit (.string bytes) => bytes.length + 1
  | .lit _ => 1
  | .nil => 1
  | .ptr d => uptoBulk d + 1
  | .slice elems spare => uptoBulkAll elems + uptoBulkAll spare + 1
  | .agg parts => uptoBulkAll parts + 1
  | .iface _ d => uptoBulk d + 1
  | .map entries => uptoBulkEntries entries + 1
  | .held _ => 1
def uptoBulkAll {H : Type} : List (DataW H) → Nat
  | [] => 0
  | d :: r => uptoBulk d + uptoBulkAll r
def uptoBulkEntries {H : Type} : List (Lit × DataW H) → Nat
  | [] => 0
  | x :: r => uptoBulkEntry x + uptoBulkEntries r
def uptoBulkEntry {H : Type} : Lit × DataW H → Nat
  | (.string bytes, d) => bytes.length + uptoBulk d + 1
  | (_, d) => uptoBulk d + 1
 end
def uptoSmall : (H : Type) → List (DataW H) → Bool := fun _ ds => decide (uptoBulkAll ds ≤ 1048576)
def OpenSpec.upto (s : _root_.Go.ChangeSpec) : _root_.Go.OpenSpec := { _root_.Go.OpenSpec.ofChange s with cond := some uptoSmall }

/-- 'chalklinelaw08.TypesTerms', WHERE WHAT IT READS IS OF BULK AT MOST 1048576: true; the input reads as it did. -/
def typesTermsUptoRow : OpenClaim := { program := "ytnnkldnhlebmmaadoor", sum := "417e089fe673342dc86b9a81c5cb37949ffbdda528ab13d3474356387ba8f145", func := "chalkline/chalklinelaw08.TypesTerms", spec := "typesTerms", inPlace := ["internal/bytealg.IndexByteString", "internal/bytealg.IndexString"], unfollowed := true, recurses := true, named := ["chalkline/formula.arity", "chalkline/formula.signs", "chalkline/formula.reserved", "unicode/utf8.first", "unicode/utf8.acceptRanges", "chalkline/types.takes", "chalkline/types.asks", "internal/bytealg.MaxLen"], apart := false, laid := [("unicode/utf8.acceptRanges", laid_unicode_utf8_acceptRanges), ("chalkline/formula.reserved", laid_chalkline_formula_reserved), ("chalkline/formula.signs", laid_chalkline_formula_signs), ("chalkline/formula.arity", laid_chalkline_formula_arity), ("chalkline/types.asks", laid_chalkline_types_asks), ("chalkline/types.takes", laid_chalkline_types_takes), ("unicode/utf8.first", laid_unicode_utf8_first)], narrowed := true }
def TypesTermsUptoSaid : Prop := typesTermsUptoRow.holds Tryd.pinned (OpenSpec.upto typesTermsSpec)

/-- 'chalklinelaw08.TypesForms', WHERE WHAT IT READS IS OF BULK AT MOST 1048576: true; the input reads as it did. -/
def typesFormsUptoRow : OpenClaim := { program := "ytnnkldnhlebmmaadoor", sum := "417e089fe673342dc86b9a81c5cb37949ffbdda528ab13d3474356387ba8f145", func := "chalkline/chalklinelaw08.TypesForms", spec := "typesForms", inPlace := ["internal/bytealg.IndexByteString", "internal/bytealg.IndexString"], unfollowed := true, recurses := true, named := ["chalkline/formula.arity", "chalkline/formula.signs", "chalkline/formula.reserved", "unicode/utf8.first", "unicode/utf8.acceptRanges", "chalkline/types.takes", "chalkline/types.asks", "internal/bytealg.MaxLen"], loops := true, apart := false, laid := [("unicode/utf8.acceptRanges", laid_unicode_utf8_acceptRanges), ("chalkline/formula.reserved", laid_chalkline_formula_reserved), ("chalkline/formula.signs", laid_chalkline_formula_signs), ("chalkline/formula.arity", laid_chalkline_formula_arity), ("chalkline/types.asks", laid_chalkline_types_asks), ("chalkline/types.takes", laid_chalkline_types_takes), ("unicode/utf8.first", laid_unicode_utf8_first)], narrowed := true }
def TypesFormsUptoSaid : Prop := typesFormsUptoRow.holds Tryd.pinned (OpenSpec.upto typesFormsSpec)

/-- 'chalklinelaw08.TypesRules', WHERE WHAT IT READS IS OF BULK AT MOST 1048576: true; the input reads as it did. -/
def typesRulesUptoRow : OpenClaim := { program := "ytnnkldnhlebmmaadoor", sum := "417e089fe673342dc86b9a81c5cb37949ffbdda528ab13d3474356387ba8f145", func := "chalkline/chalklinelaw08.TypesRules", spec := "typesRules", inPlace := ["internal/bytealg.IndexByteString", "internal/bytealg.IndexString"], unfollowed := true, recurses := true, named := ["chalkline/formula.arity", "chalkline/formula.signs", "chalkline/formula.reserved", "unicode/utf8.first", "unicode/utf8.acceptRanges", "chalkline/types.takes", "chalkline/types.asks", "internal/bytealg.MaxLen"], loops := true, apart := false, laid := [("unicode/utf8.acceptRanges", laid_unicode_utf8_acceptRanges), ("chalkline/formula.reserved", laid_chalkline_formula_reserved), ("chalkline/formula.signs", laid_chalkline_formula_signs), ("chalkline/formula.arity", laid_chalkline_formula_arity), ("chalkline/types.asks", laid_chalkline_types_asks), ("chalkline/types.takes", laid_chalkline_types_takes), ("unicode/utf8.first", laid_unicode_utf8_first)], narrowed := true }
def TypesRulesUptoSaid : Prop := typesRulesUptoRow.holds Tryd.pinned (OpenSpec.upto typesRulesSpec)

/-- 'chalklinelaw08.TypesWeakening', WHERE WHAT IT READS IS OF BULK AT MOST 1048576: true; the input reads as it did. -/
def typesWeakeningUptoRow : OpenClaim := { program := "ytnnkldnhlebmmaadoor", sum := "417e089fe673342dc86b9a81c5cb37949ffbdda528ab13d3474356387ba8f145", func := "chalkline/chalklinelaw08.TypesWeakening", spec := "typesWeakening", inPlace := ["internal/bytealg.IndexByteString", "internal/bytealg.IndexString"], unfollowed := true, recurses := true, named := ["chalkline/formula.arity", "chalkline/formula.signs", "chalkline/formula.reserved", "unicode/utf8.first", "unicode/utf8.acceptRanges", "chalkline/types.takes", "chalkline/types.asks", "internal/bytealg.MaxLen"], loops := true, apart := false, laid := [("unicode/utf8.acceptRanges", laid_unicode_utf8_acceptRanges), ("chalkline/formula.reserved", laid_chalkline_formula_reserved), ("chalkline/formula.signs", laid_chalkline_formula_signs), ("chalkline/formula.arity", laid_chalkline_formula_arity), ("chalkline/types.asks", laid_chalkline_types_asks), ("chalkline/types.takes", laid_chalkline_types_takes), ("unicode/utf8.first", laid_unicode_utf8_first)], narrowed := true }
def TypesWeakeningUptoSaid : Prop := typesWeakeningUptoRow.holds Tryd.pinned (OpenSpec.upto typesWeakeningSpec)

/-- 'chalklinelaw08.TypesQuantifiers', WHERE WHAT IT READS IS OF BULK AT MOST 1048576: true; the input reads as it did. -/
def typesQuantifiersUptoRow : OpenClaim := { program := "ytnnkldnhlebmmaadoor", sum := "417e089fe673342dc86b9a81c5cb37949ffbdda528ab13d3474356387ba8f145", func := "chalkline/chalklinelaw08.TypesQuantifiers", spec := "typesQuantifiers", inPlace := ["internal/bytealg.IndexByteString", "internal/bytealg.IndexString"], unfollowed := true, recurses := true, named := ["chalkline/formula.arity", "chalkline/formula.signs", "chalkline/formula.reserved", "unicode/utf8.first", "unicode/utf8.acceptRanges", "chalkline/types.takes", "chalkline/types.asks", "internal/bytealg.MaxLen"], loops := true, apart := false, laid := [("unicode/utf8.acceptRanges", laid_unicode_utf8_acceptRanges), ("chalkline/formula.reserved", laid_chalkline_formula_reserved), ("chalkline/formula.signs", laid_chalkline_formula_signs), ("chalkline/formula.arity", laid_chalkline_formula_arity), ("chalkline/types.asks", laid_chalkline_types_asks), ("chalkline/types.takes", laid_chalkline_types_takes), ("unicode/utf8.first", laid_unicode_utf8_first)], narrowed := true }
def TypesQuantifiersUptoSaid : Prop := typesQuantifiersUptoRow.holds Tryd.pinned (OpenSpec.upto typesQuantifiersSpec)

/-- 'chalklinelaw08.TypesConnectives', WHERE WHAT IT READS IS OF BULK AT MOST 1048576: true; the input reads as it did. -/
def typesConnectivesUptoRow : OpenClaim := { program := "ytnnkldnhlebmmaadoor", sum := "417e089fe673342dc86b9a81c5cb37949ffbdda528ab13d3474356387ba8f145", func := "chalkline/chalklinelaw08.TypesConnectives", spec := "typesConnectives", inPlace := ["internal/bytealg.IndexByteString", "internal/bytealg.IndexString"], unfollowed := true, recurses := true, named := ["chalkline/formula.arity", "chalkline/formula.signs", "chalkline/formula.reserved", "unicode/utf8.first", "unicode/utf8.acceptRanges", "chalkline/types.takes", "chalkline/types.asks", "internal/bytealg.MaxLen"], loops := true, apart := false, laid := [("unicode/utf8.acceptRanges", laid_unicode_utf8_acceptRanges), ("chalkline/formula.reserved", laid_chalkline_formula_reserved), ("chalkline/formula.signs", laid_chalkline_formula_signs), ("chalkline/formula.arity", laid_chalkline_formula_arity), ("chalkline/types.asks", laid_chalkline_types_asks), ("chalkline/types.takes", laid_chalkline_types_takes), ("unicode/utf8.first", laid_unicode_utf8_first)], narrowed := true }
def TypesConnectivesUptoSaid : Prop := typesConnectivesUptoRow.holds Tryd.pinned (OpenSpec.upto typesConnectivesSpec)

/-- 'chalklinelaw08.TypesBodies', WHERE WHAT IT READS IS OF BULK AT MOST 1048576: true; the input reads as it did. -/
def typesBodiesUptoRow : OpenClaim := { program := "ytnnkldnhlebmmaadoor", sum := "417e089fe673342dc86b9a81c5cb37949ffbdda528ab13d3474356387ba8f145", func := "chalkline/chalklinelaw08.TypesBodies", spec := "typesBodies", inPlace := ["internal/bytealg.IndexByteString", "internal/bytealg.IndexString"], unfollowed := true, recurses := true, named := ["chalkline/formula.arity", "chalkline/formula.signs", "chalkline/formula.reserved", "unicode/utf8.first", "unicode/utf8.acceptRanges", "chalkline/types.takes", "chalkline/types.asks", "internal/bytealg.MaxLen"], loops := true, apart := false, laid := [("unicode/utf8.acceptRanges", laid_unicode_utf8_acceptRanges), ("chalkline/formula.reserved", laid_chalkline_formula_reserved), ("chalkline/formula.signs", laid_chalkline_formula_signs), ("chalkline/formula.arity", laid_chalkline_formula_arity), ("chalkline/types.asks", laid_chalkline_types_asks), ("chalkline/types.takes", laid_chalkline_types_takes), ("unicode/utf8.first", laid_unicode_utf8_first)], narrowed := true }
def TypesBodiesUptoSaid : Prop := typesBodiesUptoRow.holds Tryd.pinned (OpenSpec.upto typesBodiesSpec)

/-- 'chalklinelaw08.TypesFree', WHERE WHAT IT READS IS OF BULK AT MOST 1048576: true; the input reads as it did. -/
def typesFreeUptoRow : OpenClaim := { program := "ytnnkldnhlebmmaadoor", sum := "417e089fe673342dc86b9a81c5cb37949ffbdda528ab13d3474356387ba8f145", func := "chalkline/chalklinelaw08.TypesFree", spec := "typesFree", inPlace := ["internal/bytealg.IndexByteString", "internal/bytealg.IndexString"], unfollowed := true, recurses := true, named := ["chalkline/formula.arity", "chalkline/formula.signs", "chalkline/formula.reserved", "unicode/utf8.first", "unicode/utf8.acceptRanges", "chalkline/types.takes", "chalkline/types.asks", "internal/bytealg.MaxLen"], loops := true, apart := false, laid := [("unicode/utf8.acceptRanges", laid_unicode_utf8_acceptRanges), ("chalkline/formula.reserved", laid_chalkline_formula_reserved), ("chalkline/formula.signs", laid_chalkline_formula_signs), ("chalkline/formula.arity", laid_chalkline_formula_arity), ("chalkline/types.asks", laid_chalkline_types_asks), ("chalkline/types.takes", laid_chalkline_types_takes), ("unicode/utf8.first", laid_unicode_utf8_first)], narrowed := true }
def TypesFreeUptoSaid : Prop := typesFreeUptoRow.holds Tryd.pinned (OpenSpec.upto typesFreeSpec)

/-- 'chalklinelaw08.TypesNnf', WHERE WHAT IT READS IS OF BULK AT MOST 1048576: true; the input reads as it did. -/
def typesNnfUptoRow : OpenClaim := { program := "ytnnkldnhlebmmaadoor", sum := "417e089fe673342dc86b9a81c5cb37949ffbdda528ab13d3474356387ba8f145", func := "chalkline/chalklinelaw08.TypesNnf", spec := "typesNnf", inPlace := ["internal/bytealg.IndexByteString", "internal/bytealg.IndexString"], unfollowed := true, recurses := true, named := ["chalkline/formula.arity", "chalkline/formula.signs", "chalkline/formula.reserved", "unicode/utf8.first", "unicode/utf8.acceptRanges", "chalkline/types.takes", "chalkline/types.asks", "chalkline/formula.duals", "internal/bytealg.MaxLen"], loops := true, apart := false, laid := [("unicode/utf8.acceptRanges", laid_unicode_utf8_acceptRanges), ("chalkline/formula.reserved", laid_chalkline_formula_reserved), ("chalkline/formula.duals", laid_chalkline_formula_duals), ("chalkline/formula.signs", laid_chalkline_formula_signs), ("chalkline/formula.arity", laid_chalkline_formula_arity), ("chalkline/types.asks", laid_chalkline_types_asks), ("chalkline/types.takes", laid_chalkline_types_takes), ("unicode/utf8.first", laid_unicode_utf8_first)], narrowed := true }
def TypesNnfUptoSaid : Prop := typesNnfUptoRow.holds Tryd.pinned (OpenSpec.upto typesNnfSpec)

end Rows
end Go.Proofs.YtnnkldnhlebmmaaDoor
