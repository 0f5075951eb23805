/-
  DERIVED. GIVEN WITH THE SEED: THE CARDS: each row of YtmlcaecknocpoaaDoorRows.lean that lists a variable, with what it lists TIED to the program's text (the seventh form; the later family's looks); each row that meets fmt, with fmt's text TOLD by the authors' own Lean function (tested against real Go, not proved from fmt's source: count such statements apart). THE CARD IS WHAT COUNTS. Prove the row's statement (the work); the ties are given (YtmlcaecknocpoaaDoorTie.lean); close each card by the builder's one call (the guide's Derived/Test/ToyasCard.lean, 'card_holds'). Laid BY PROGRAM, IN A SANDBOX (cutbox-door.mjs). By AI agents, Wed Nov 11 2026. No macro, syntax, notation, axiom, sorry.
-/
import Derived.Test.YtmlcaecknocpoaaDoorRows
import GoSem.ClaimSeven
namespace Go.Proofs.YtmlcaecknocpoaaDoor
namespace Rows

/-- THE TIED CARD OF 'chalklinelaw06.FormCheckSpec'. -/
def formCheckSpecCard : Claim7 := { stood := { row := formCheckSpecRow, standIns := [], harness := (true, "5e7672824be2eb570f1808abe5f0280c38cb82649d9bb261d524f2f8f472955d"), looks := false }, kinds := [], alts := [], laidByText := true, laidKinds := [.data, .mapped, .mapped, .mapped, .mapped, .pinned], laidTests := true, laidLooks := .later }
def FormCheckSpecCardSaid : Prop := Claim7.holds Tryd.pinned (.plain (OpenSpec.ofChange formCheckSpecSpec)) formCheckSpecCard

/-- THE TIED CARD OF 'chalklinelaw06.FormFreeSpec'. -/
def formFreeSpecCard : Claim7 := { stood := { row := formFreeSpecRow, standIns := [], harness := (true, "5e7672824be2eb570f1808abe5f0280c38cb82649d9bb261d524f2f8f472955d"), looks := false }, kinds := [], alts := [], laidByText := true, laidKinds := [.data, .mapped, .mapped, .mapped, .mapped, .pinned], laidTests := true, laidLooks := .later }
def FormFreeSpecCardSaid : Prop := Claim7.holds Tryd.pinned (.plain (OpenSpec.ofChange formFreeSpecSpec)) formFreeSpecCard

/-- THE TIED CARD OF 'chalklinelaw06.FormNnfSpec'. -/
def formNnfSpecCard : Claim7 := { stood := { row := formNnfSpecRow, standIns := [], harness := (true, "5e7672824be2eb570f1808abe5f0280c38cb82649d9bb261d524f2f8f472955d"), looks := false }, kinds := [], alts := [], laidByText := true, laidKinds := [.data, .mapped, .mapped, .mapped, .mapped, .pinned], laidTests := true, laidLooks := .later }
def FormNnfSpecCardSaid : Prop := Claim7.holds Tryd.pinned (.plain (OpenSpec.ofChange formNnfSpecSpec)) formNnfSpecCard

/-- THE TIED CARD OF 'chalklinelaw06.FormNnfNormal'. -/
def formNnfNormalCard : Claim7 := { stood := { row := formNnfNormalRow, standIns := [], harness := (true, "5e7672824be2eb570f1808abe5f0280c38cb82649d9bb261d524f2f8f472955d"), looks := false }, kinds := [], alts := [], laidByText := true, laidKinds := [.data, .mapped, .mapped, .mapped, .mapped, .pinned], laidTests := true, laidLooks := .later }
def FormNnfNormalCardSaid : Prop := Claim7.holds Tryd.pinned (.plain (OpenSpec.ofChange formNnfNormalSpec)) formNnfNormalCard

/-- THE TIED CARD OF 'chalklinelaw08.TypesFree'. -/
def typesFreeCard : Claim7 := { stood := { row := typesFreeRow, standIns := [], harness := (true, "5e7672824be2eb570f1808abe5f0280c38cb82649d9bb261d524f2f8f472955d"), looks := false }, kinds := [], alts := [], laidByText := true, laidKinds := [.data, .mapped, .mapped, .mapped, .widerDeep, .data, .pinned], laidTests := true, laidLooks := .later }
def TypesFreeCardSaid : Prop := Claim7.holds Tryd.pinned (.plain (OpenSpec.ofChange typesFreeSpec)) typesFreeCard

/-- THE TIED CARD OF 'chalklinelaw06.FormDoubleNegation'. -/
def formDoubleNegationCard : Claim7 := { stood := { row := formDoubleNegationRow, standIns := [], harness := (true, "5e7672824be2eb570f1808abe5f0280c38cb82649d9bb261d524f2f8f472955d"), looks := false }, kinds := [], alts := [], laidByText := true, laidKinds := [.data, .mapped, .mapped, .mapped, .mapped, .pinned], laidTests := true, laidLooks := .later }
def FormDoubleNegationCardSaid : Prop := Claim7.holds Tryd.pinned (.plain (OpenSpec.ofChange formDoubleNegationSpec)) formDoubleNegationCard

/-- THE TIED CARD OF 'chalklinelaw08.TypesNnf'. -/
def typesNnfCard : Claim7 := { stood := { row := typesNnfRow, standIns := [], harness := (true, "5e7672824be2eb570f1808abe5f0280c38cb82649d9bb261d524f2f8f472955d"), looks := false }, kinds := [], alts := [], laidByText := true, laidKinds := [.data, .mapped, .mapped, .mapped, .mapped, .widerDeep, .data, .pinned], laidTests := true, laidLooks := .later }
def TypesNnfCardSaid : Prop := Claim7.holds Tryd.pinned (.plain (OpenSpec.ofChange typesNnfSpec)) typesNnfCard

/-- THE TIED CARD OF 'chalklinelaw06.FormCompositional'. -/
def formCompositionalCard : Claim7 := { stood := { row := formCompositionalRow, standIns := [], harness := (true, "5e7672824be2eb570f1808abe5f0280c38cb82649d9bb261d524f2f8f472955d"), looks := false }, kinds := [], alts := [], laidByText := true, laidKinds := [.data, .mapped, .mapped, .mapped, .mapped, .pinned], laidTests := true, laidLooks := .later }
def FormCompositionalCardSaid : Prop := Claim7.holds Tryd.pinned (.plain (OpenSpec.ofChange formCompositionalSpec)) formCompositionalCard

/-- THE TIED CARD OF 'chalklinelaw06.FormBindsName'. -/
def formBindsNameCard : Claim7 := { stood := { row := formBindsNameRow, standIns := [], harness := (true, "5e7672824be2eb570f1808abe5f0280c38cb82649d9bb261d524f2f8f472955d"), looks := false }, kinds := [], alts := [], laidByText := true, laidKinds := [.data, .mapped, .mapped, .mapped, .mapped, .pinned], laidTests := true, laidLooks := .later }
def FormBindsNameCardSaid : Prop := Claim7.holds Tryd.pinned (.plain (OpenSpec.ofChange formBindsNameSpec)) formBindsNameCard

/-- THE TIED CARD OF 'chalklinelaw06.FormSameExact'. -/
def formSameExactCard : Claim7 := { stood := { row := formSameExactRow, standIns := [], harness := (true, "5e7672824be2eb570f1808abe5f0280c38cb82649d9bb261d524f2f8f472955d"), looks := false }, kinds := [], alts := [], laidByText := true, laidKinds := [.data, .mapped, .mapped, .mapped, .mapped, .pinned], laidTests := true, laidLooks := .later }
def FormSameExactCardSaid : Prop := Claim7.holds Tryd.pinned (.plain (OpenSpec.ofChange formSameExactSpec)) formSameExactCard

/-- THE TIED CARD OF 'chalklinelaw08.TypesTerms'. -/
def typesTermsCard : Claim7 := { stood := { row := typesTermsRow, standIns := [], harness := (true, "5e7672824be2eb570f1808abe5f0280c38cb82649d9bb261d524f2f8f472955d"), looks := false }, kinds := [], alts := [], laidByText := true, laidKinds := [.data, .mapped, .mapped, .mapped, .widerDeep, .data, .pinned], laidTests := true, laidLooks := .later }
def TypesTermsCardSaid : Prop := Claim7.holds Tryd.pinned (.plain (OpenSpec.ofChange typesTermsSpec)) typesTermsCard

/-- THE TIED CARD OF 'chalklinelaw08.TypesForms'. -/
def typesFormsCard : Claim7 := { stood := { row := typesFormsRow, standIns := [], harness := (true, "5e7672824be2eb570f1808abe5f0280c38cb82649d9bb261d524f2f8f472955d"), looks := false }, kinds := [], alts := [], laidByText := true, laidKinds := [.data, .mapped, .mapped, .mapped, .widerDeep, .data, .pinned], laidTests := true, laidLooks := .later }
def TypesFormsCardSaid : Prop := Claim7.holds Tryd.pinned (.plain (OpenSpec.ofChange typesFormsSpec)) typesFormsCard

/-- THE TIED CARD OF 'chalklinelaw08.TypesRules'. -/
def typesRulesCard : Claim7 := { stood := { row := typesRulesRow, standIns := [], harness := (true, "5e7672824be2eb570f1808abe5f0280c38cb82649d9bb261d524f2f8f472955d"), looks := false }, kinds := [], alts := [], laidByText := true, laidKinds := [.data, .mapped, .mapped, .mapped, .widerDeep, .data, .pinned], laidTests := true, laidLooks := .later }
def TypesRulesCardSaid : Prop := Claim7.holds Tryd.pinned (.plain (OpenSpec.ofChange typesRulesSpec)) typesRulesCard

/-- THE TIED CARD OF 'chalklinelaw08.TypesWeakening'. -/
def typesWeakeningCard : Claim7 := { stood := { row := typesWeakeningRow, standIns := [], harness := (true, "5e7672824be2eb570f1808abe5f0280c38cb82649d9bb261d524f2f8f472955d"), looks := false }, kinds := [], alts := [], laidByText := true, laidKinds := [.data, .mapped, .mapped, .mapped, .widerDeep, .data, .pinned], laidTests := true, laidLooks := .later }
def TypesWeakeningCardSaid : Prop := Claim7.holds Tryd.pinned (.plain (OpenSpec.ofChange typesWeakeningSpec)) typesWeakeningCard

/-- THE TIED CARD OF 'chalklinelaw08.TypesQuantifiers'. -/
def typesQuantifiersCard : Claim7 := { stood := { row := typesQuantifiersRow, standIns := [], harness := (true, "5e7672824be2eb570f1808abe5f0280c38cb82649d9bb261d524f2f8f472955d"), looks := false }, kinds := [], alts := [], laidByText := true, laidKinds := [.data, .mapped, .mapped, .mapped, .widerDeep, .data, .pinned], laidTests := true, laidLooks := .later }
def TypesQuantifiersCardSaid : Prop := Claim7.holds Tryd.pinned (.plain (OpenSpec.ofChange typesQuantifiersSpec)) typesQuantifiersCard

/-- THE TIED CARD OF 'chalklinelaw08.TypesConnectives'. -/
def typesConnectivesCard : Claim7 := { stood := { row := typesConnectivesRow, standIns := [], harness := (true, "5e7672824be2eb570f1808abe5f0280c38cb82649d9bb261d524f2f8f472955d"), looks := false }, kinds := [], alts := [], laidByText := true, laidKinds := [.data, .mapped, .mapped, .mapped, .widerDeep, .data, .pinned], laidTests := true, laidLooks := .later }
def TypesConnectivesCardSaid : Prop := Claim7.holds Tryd.pinned (.plain (OpenSpec.ofChange typesConnectivesSpec)) typesConnectivesCard

/-- THE TIED CARD OF 'chalklinelaw08.TypesBodies'. -/
def typesBodiesCard : Claim7 := { stood := { row := typesBodiesRow, standIns := [], harness := (true, "5e7672824be2eb570f1808abe5f0280c38cb82649d9bb261d524f2f8f472955d"), looks := false }, kinds := [], alts := [], laidByText := true, laidKinds := [.data, .mapped, .mapped, .mapped, .widerDeep, .data, .pinned], laidTests := true, laidLooks := .later }
def TypesBodiesCardSaid : Prop := Claim7.holds Tryd.pinned (.plain (OpenSpec.ofChange typesBodiesSpec)) typesBodiesCard

/-- THE SECOND FORM's CARD OF 'chalklinelaw06.FormCheckSpec'. -/
def formCheckSpecUptoCard : Claim7 := { stood := { row := formCheckSpecUptoRow, standIns := [], harness := (true, "5e7672824be2eb570f1808abe5f0280c38cb82649d9bb261d524f2f8f472955d"), looks := false }, kinds := [], alts := [], laidByText := true, laidKinds := [.data, .mapped, .mapped, .mapped, .mapped, .pinned], laidTests := true, laidLooks := .later }
def FormCheckSpecUptoCardSaid : Prop := Claim7.holds Tryd.pinned (.plain (OpenSpec.upto formCheckSpecSpec)) formCheckSpecUptoCard

/-- THE SECOND FORM's CARD OF 'chalklinelaw06.FormFreeSpec'. -/
def formFreeSpecUptoCard : Claim7 := { stood := { row := formFreeSpecUptoRow, standIns := [], harness := (true, "5e7672824be2eb570f1808abe5f0280c38cb82649d9bb261d524f2f8f472955d"), looks := false }, kinds := [], alts := [], laidByText := true, laidKinds := [.data, .mapped, .mapped, .mapped, .mapped, .pinned], laidTests := true, laidLooks := .later }
def FormFreeSpecUptoCardSaid : Prop := Claim7.holds Tryd.pinned (.plain (OpenSpec.upto formFreeSpecSpec)) formFreeSpecUptoCard

/-- THE SECOND FORM's CARD OF 'chalklinelaw06.FormNnfSpec'. -/
def formNnfSpecUptoCard : Claim7 := { stood := { row := formNnfSpecUptoRow, standIns := [], harness := (true, "5e7672824be2eb570f1808abe5f0280c38cb82649d9bb261d524f2f8f472955d"), looks := false }, kinds := [], alts := [], laidByText := true, laidKinds := [.data, .mapped, .mapped, .mapped, .mapped, .pinned], laidTests := true, laidLooks := .later }
def FormNnfSpecUptoCardSaid : Prop := Claim7.holds Tryd.pinned (.plain (OpenSpec.upto formNnfSpecSpec)) formNnfSpecUptoCard

/-- THE SECOND FORM's CARD OF 'chalklinelaw06.FormNnfNormal'. -/
def formNnfNormalUptoCard : Claim7 := { stood := { row := formNnfNormalUptoRow, standIns := [], harness := (true, "5e7672824be2eb570f1808abe5f0280c38cb82649d9bb261d524f2f8f472955d"), looks := false }, kinds := [], alts := [], laidByText := true, laidKinds := [.data, .mapped, .mapped, .mapped, .mapped, .pinned], laidTests := true, laidLooks := .later }
def FormNnfNormalUptoCardSaid : Prop := Claim7.holds Tryd.pinned (.plain (OpenSpec.upto formNnfNormalSpec)) formNnfNormalUptoCard

/-- THE SECOND FORM's CARD OF 'chalklinelaw08.TypesFree'. -/
def typesFreeUptoCard : Claim7 := { stood := { row := typesFreeUptoRow, standIns := [], harness := (true, "5e7672824be2eb570f1808abe5f0280c38cb82649d9bb261d524f2f8f472955d"), looks := false }, kinds := [], alts := [], laidByText := true, laidKinds := [.data, .mapped, .mapped, .mapped, .widerDeep, .data, .pinned], laidTests := true, laidLooks := .later }
def TypesFreeUptoCardSaid : Prop := Claim7.holds Tryd.pinned (.plain (OpenSpec.upto typesFreeSpec)) typesFreeUptoCard

/-- THE SECOND FORM's CARD OF 'chalklinelaw06.FormDoubleNegation'. -/
def formDoubleNegationUptoCard : Claim7 := { stood := { row := formDoubleNegationUptoRow, standIns := [], harness := (true, "5e7672824be2eb570f1808abe5f0280c38cb82649d9bb261d524f2f8f472955d"), looks := false }, kinds := [], alts := [], laidByText := true, laidKinds := [.data, .mapped, .mapped, .mapped, .mapped, .pinned], laidTests := true, laidLooks := .later }
def FormDoubleNegationUptoCardSaid : Prop := Claim7.holds Tryd.pinned (.plain (OpenSpec.upto formDoubleNegationSpec)) formDoubleNegationUptoCard

/-- THE SECOND FORM's CARD OF 'chalklinelaw08.TypesNnf'. -/
def typesNnfUptoCard : Claim7 := { stood := { row := typesNnfUptoRow, standIns := [], harness := (true, "5e7672824be2eb570f1808abe5f0280c38cb82649d9bb261d524f2f8f472955d"), looks := false }, kinds := [], alts := [], laidByText := true, laidKinds := [.data, .mapped, .mapped, .mapped, .mapped, .widerDeep, .data, .pinned], laidTests := true, laidLooks := .later }
def TypesNnfUptoCardSaid : Prop := Claim7.holds Tryd.pinned (.plain (OpenSpec.upto typesNnfSpec)) typesNnfUptoCard

/-- THE SECOND FORM's CARD OF 'chalklinelaw06.FormCompositional'. -/
def formCompositionalUptoCard : Claim7 := { stood := { row := formCompositionalUptoRow, standIns := [], harness := (true, "5e7672824be2eb570f1808abe5f0280c38cb82649d9bb261d524f2f8f472955d"), looks := false }, kinds := [], alts := [], laidByText := true, laidKinds := [.data, .mapped, .mapped, .mapped, .mapped, .pinned], laidTests := true, laidLooks := .later }
def FormCompositionalUptoCardSaid : Prop := Claim7.holds Tryd.pinned (.plain (OpenSpec.upto formCompositionalSpec)) formCompositionalUptoCard

/-- THE SECOND FORM's CARD OF 'chalklinelaw06.FormBindsName'. -/
def formBindsNameUptoCard : Claim7 := { stood := { row := formBindsNameUptoRow, standIns := [], harness := (true, "5e7672824be2eb570f1808abe5f0280c38cb82649d9bb261d524f2f8f472955d"), looks := false }, kinds := [], alts := [], laidByText := true, laidKinds := [.data, .mapped, .mapped, .mapped, .mapped, .pinned], laidTests := true, laidLooks := .later }
def FormBindsNameUptoCardSaid : Prop := Claim7.holds Tryd.pinned (.plain (OpenSpec.upto formBindsNameSpec)) formBindsNameUptoCard

/-- THE SECOND FORM's CARD OF 'chalklinelaw06.FormSameExact'. -/
def formSameExactUptoCard : Claim7 := { stood := { row := formSameExactUptoRow, standIns := [], harness := (true, "5e7672824be2eb570f1808abe5f0280c38cb82649d9bb261d524f2f8f472955d"), looks := false }, kinds := [], alts := [], laidByText := true, laidKinds := [.data, .mapped, .mapped, .mapped, .mapped, .pinned], laidTests := true, laidLooks := .later }
def FormSameExactUptoCardSaid : Prop := Claim7.holds Tryd.pinned (.plain (OpenSpec.upto formSameExactSpec)) formSameExactUptoCard

/-- THE SECOND FORM's CARD OF 'chalklinelaw08.TypesTerms'. -/
def typesTermsUptoCard : Claim7 := { stood := { row := typesTermsUptoRow, standIns := [], harness := (true, "5e7672824be2eb570f1808abe5f0280c38cb82649d9bb261d524f2f8f472955d"), looks := false }, kinds := [], alts := [], laidByText := true, laidKinds := [.data, .mapped, .mapped, .mapped, .widerDeep, .data, .pinned], laidTests := true, laidLooks := .later }
def TypesTermsUptoCardSaid : Prop := Claim7.holds Tryd.pinned (.plain (OpenSpec.upto typesTermsSpec)) typesTermsUptoCard

/-- THE SECOND FORM's CARD OF 'chalklinelaw08.TypesForms'. -/
def typesFormsUptoCard : Claim7 := { stood := { row := typesFormsUptoRow, standIns := [], harness := (true, "5e7672824be2eb570f1808abe5f0280c38cb82649d9bb261d524f2f8f472955d"), looks := false }, kinds := [], alts := [], laidByText := true, laidKinds := [.data, .mapped, .mapped, .mapped, .widerDeep, .data, .pinned], laidTests := true, laidLooks := .later }
def TypesFormsUptoCardSaid : Prop := Claim7.holds Tryd.pinned (.plain (OpenSpec.upto typesFormsSpec)) typesFormsUptoCard

/-- THE SECOND FORM's CARD OF 'chalklinelaw08.TypesRules'. -/
def typesRulesUptoCard : Claim7 := { stood := { row := typesRulesUptoRow, standIns := [], harness := (true, "5e7672824be2eb570f1808abe5f0280c38cb82649d9bb261d524f2f8f472955d"), looks := false }, kinds := [], alts := [], laidByText := true, laidKinds := [.data, .mapped, .mapped, .mapped, .widerDeep, .data, .pinned], laidTests := true, laidLooks := .later }
def TypesRulesUptoCardSaid : Prop := Claim7.holds Tryd.pinned (.plain (OpenSpec.upto typesRulesSpec)) typesRulesUptoCard

/-- THE SECOND FORM's CARD OF 'chalklinelaw08.TypesWeakening'. -/
def typesWeakeningUptoCard : Claim7 := { stood := { row := typesWeakeningUptoRow, standIns := [], harness := (true, "5e7672824be2eb570f1808abe5f0280c38cb82649d9bb261d524f2f8f472955d"), looks := false }, kinds := [], alts := [], laidByText := true, laidKinds := [.data, .mapped, .mapped, .mapped, .widerDeep, .data, .pinned], laidTests := true, laidLooks := .later }
def TypesWeakeningUptoCardSaid : Prop := Claim7.holds Tryd.pinned (.plain (OpenSpec.upto typesWeakeningSpec)) typesWeakeningUptoCard

/-- THE SECOND FORM's CARD OF 'chalklinelaw08.TypesQuantifiers'. -/
def typesQuantifiersUptoCard : Claim7 := { stood := { row := typesQuantifiersUptoRow, standIns := [], harness := (true, "5e7672824be2eb570f1808abe5f0280c38cb82649d9bb261d524f2f8f472955d"), looks := false }, kinds := [], alts := [], laidByText := true, laidKinds := [.data, .mapped, .mapped, .mapped, .widerDeep, .data, .pinned], laidTests := true, laidLooks := .later }
def TypesQuantifiersUptoCardSaid : Prop := Claim7.holds Tryd.pinned (.plain (OpenSpec.upto typesQuantifiersSpec)) typesQuantifiersUptoCard

/-- THE SECOND FORM's CARD OF 'chalklinelaw08.TypesConnectives'. -/
def typesConnectivesUptoCard : Claim7 := { stood := { row := typesConnectivesUptoRow, standIns := [], harness := (true, "5e7672824be2eb570f1808abe5f0280c38cb82649d9bb261d524f2f8f472955d"), looks := false }, kinds := [], alts := [], laidByText := true, laidKinds := [.data, .mapped, .mapped, .mapped, .widerDeep, .data, .pinned], laidTests := true, laidLooks := .later }
def TypesConnectivesUptoCardSaid : Prop := Claim7.holds Tryd.pinned (.plain (OpenSpec.upto typesConnectivesSpec)) typesConnectivesUptoCard

/-- THE SECOND FORM's CARD OF 'chalklinelaw08.TypesBodies'. -/
def typesBodiesUptoCard : Claim7 := { stood := { row := typesBodiesUptoRow, standIns := [], harness := (true, "5e7672824be2eb570f1808abe5f0280c38cb82649d9bb261d524f2f8f472955d"), looks := false }, kinds := [], alts := [], laidByText := true, laidKinds := [.data, .mapped, .mapped, .mapped, .widerDeep, .data, .pinned], laidTests := true, laidLooks := .later }
def TypesBodiesUptoCardSaid : Prop := Claim7.holds Tryd.pinned (.plain (OpenSpec.upto typesBodiesSpec)) typesBodiesUptoCard
end Rows
end Go.Proofs.YtmlcaecknocpoaaDoor
