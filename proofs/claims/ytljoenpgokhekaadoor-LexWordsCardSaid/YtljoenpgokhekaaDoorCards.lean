/-
  DERIVED. GIVEN WITH THE SEED: THE CARDS: each row of YtljoenpgokhekaaDoorRows.lean that lists a variable, with what it lists TIED to the program's text (the seventh form; the later family's looks); each row that meets fmt, with fmt's text TOLD by the authors' own Lean function (tested against real Go, not proved from fmt's source: count such statements apart). THE CARD IS WHAT COUNTS. Prove the row's statement (the work); the ties are given (YtljoenpgokhekaaDoorTie.lean); close each card by the builder's one call (the guide's Derived/Test/ToyasCard.lean, 'card_holds'). Laid BY PROGRAM, IN A SANDBOX (cutbox-door.mjs). By AI agents, Wed Nov 11 2026. No macro, syntax, notation, axiom, sorry.
-/
import Derived.Test.YtljoenpgokhekaaDoorRows
import GoSem.ClaimSeven
namespace Go.Proofs.YtljoenpgokhekaaDoor
namespace Rows

/-- THE TIED CARD OF 'clerestorylaw17.BindValues'. -/
def bindValuesCard : Claim7 := { stood := { row := bindValuesRow, standIns := [], harness := (true, "1118aad0860922667d286adbc9ba86ba553ad50f7af19ce0322ce68dcf370000"), looks := true }, kinds := [], alts := [], laidByText := true, laidKinds := [.data, .pinned], laidTests := true, laidLooks := .later }
def BindValuesCardSaid : Prop := Claim7.holds Tryd.pinned (.plain (OpenSpec.ofChange bindValuesSpec)) bindValuesCard

/-- THE TIED CARD OF 'clerestorylaw13.LexAll'. -/
def lexAllCard : Claim7 := { stood := { row := lexAllRow, standIns := [], harness := (true, "1118aad0860922667d286adbc9ba86ba553ad50f7af19ce0322ce68dcf370000"), looks := true }, kinds := [], alts := [], laidByText := true, laidKinds := [.data, .pinned], laidTests := true, laidLooks := .later }
def LexAllCardSaid : Prop := Claim7.holds Tryd.pinned (.plain (OpenSpec.ofChange lexAllSpec)) lexAllCard

/-- THE TIED CARD OF 'clerestorylaw13.LexBlanks'. -/
def lexBlanksCard : Claim7 := { stood := { row := lexBlanksRow, standIns := [], harness := (true, "1118aad0860922667d286adbc9ba86ba553ad50f7af19ce0322ce68dcf370000"), looks := true }, kinds := [], alts := [], laidByText := true, laidKinds := [.data, .pinned], laidTests := true, laidLooks := .later }
def LexBlanksCardSaid : Prop := Claim7.holds Tryd.pinned (.plain (OpenSpec.ofChange lexBlanksSpec)) lexBlanksCard

/-- THE TIED CARD OF 'clerestorylaw13.LexNumbers'. -/
def lexNumbersCard : Claim7 := { stood := { row := lexNumbersRow, standIns := [], harness := (true, "1118aad0860922667d286adbc9ba86ba553ad50f7af19ce0322ce68dcf370000"), looks := true }, kinds := [], alts := [], laidByText := true, laidKinds := [.data, .pinned], laidTests := true, laidLooks := .later }
def LexNumbersCardSaid : Prop := Claim7.holds Tryd.pinned (.plain (OpenSpec.ofChange lexNumbersSpec)) lexNumbersCard

/-- THE TIED CARD OF 'clerestorylaw13.LexWords'. -/
def lexWordsCard : Claim7 := { stood := { row := lexWordsRow, standIns := [], harness := (true, "1118aad0860922667d286adbc9ba86ba553ad50f7af19ce0322ce68dcf370000"), looks := true }, kinds := [], alts := [], laidByText := true, laidKinds := [.data, .pinned], laidTests := true, laidLooks := .later }
def LexWordsCardSaid : Prop := Claim7.holds Tryd.pinned (.plain (OpenSpec.ofChange lexWordsSpec)) lexWordsCard

/-- THE TIED CARD OF 'clerestorylaw01.RunesQuotes'. -/
def runesQuotesCard : Claim7 := { stood := { row := runesQuotesRow, standIns := [], harness := (true, "1118aad0860922667d286adbc9ba86ba553ad50f7af19ce0322ce68dcf370000"), looks := true }, kinds := [], alts := [], laidByText := true, laidKinds := [.data, .pinned], laidTests := true, laidLooks := .later }
def RunesQuotesCardSaid : Prop := Claim7.holds Tryd.pinned (.plain (OpenSpec.ofChange runesQuotesSpec)) runesQuotesCard

/-- THE TIED CARD OF 'clerestorylaw01.RunesDoubled'. -/
def runesDoubledCard : Claim7 := { stood := { row := runesDoubledRow, standIns := [], harness := (true, "1118aad0860922667d286adbc9ba86ba553ad50f7af19ce0322ce68dcf370000"), looks := true }, kinds := [], alts := [], laidByText := true, laidKinds := [.data, .pinned], laidTests := true, laidLooks := .later }
def RunesDoubledCardSaid : Prop := Claim7.holds Tryd.pinned (.plain (OpenSpec.ofChange runesDoubledSpec)) runesDoubledCard

/-- THE TIED CARD OF 'clerestorylaw01.RunesNames'. -/
def runesNamesCard : Claim7 := { stood := { row := runesNamesRow, standIns := [], harness := (true, "1118aad0860922667d286adbc9ba86ba553ad50f7af19ce0322ce68dcf370000"), looks := true }, kinds := [], alts := [], laidByText := true, laidKinds := [.data, .pinned], laidTests := true, laidLooks := .later }
def RunesNamesCardSaid : Prop := Claim7.holds Tryd.pinned (.plain (OpenSpec.ofChange runesNamesSpec)) runesNamesCard

/-- THE TIED CARD OF 'clerestorylaw01.RunesGo'. -/
def runesGoCard : Claim7 := { stood := { row := runesGoRow, standIns := [], harness := (true, "1118aad0860922667d286adbc9ba86ba553ad50f7af19ce0322ce68dcf370000"), looks := true }, kinds := [], alts := [], laidByText := true, laidKinds := [.data, .pinned], laidTests := true, laidLooks := .later }
def RunesGoCardSaid : Prop := Claim7.holds Tryd.pinned (.plain (OpenSpec.ofChange runesGoSpec)) runesGoCard

/-- THE TIED CARD OF 'clerestorylaw01.RunesParts'. -/
def runesPartsCard : Claim7 := { stood := { row := runesPartsRow, standIns := [], harness := (true, "1118aad0860922667d286adbc9ba86ba553ad50f7af19ce0322ce68dcf370000"), looks := true }, kinds := [], alts := [], laidByText := true, laidKinds := [.data, .pinned], laidTests := true, laidLooks := .later }
def RunesPartsCardSaid : Prop := Claim7.holds Tryd.pinned (.plain (OpenSpec.ofChange runesPartsSpec)) runesPartsCard

/-- THE TIED CARD OF 'clerestorylaw01.RunesAll'. -/
def runesAllCard : Claim7 := { stood := { row := runesAllRow, standIns := [], harness := (true, "1118aad0860922667d286adbc9ba86ba553ad50f7af19ce0322ce68dcf370000"), looks := true }, kinds := [], alts := [], laidByText := true, laidKinds := [.data, .pinned], laidTests := true, laidLooks := .later }
def RunesAllCardSaid : Prop := Claim7.holds Tryd.pinned (.plain (OpenSpec.ofChange runesAllSpec)) runesAllCard

/-- THE SECOND FORM's CARD OF 'clerestorylaw17.BindValues'. -/
def bindValuesUptoCard : Claim7 := { stood := { row := bindValuesUptoRow, standIns := [], harness := (true, "1118aad0860922667d286adbc9ba86ba553ad50f7af19ce0322ce68dcf370000"), looks := true }, kinds := [], alts := [], laidByText := true, laidKinds := [.data, .pinned], laidTests := true, laidLooks := .later }
def BindValuesUptoCardSaid : Prop := Claim7.holds Tryd.pinned (.plain (OpenSpec.upto bindValuesSpec)) bindValuesUptoCard

/-- THE SECOND FORM's CARD OF 'clerestorylaw13.LexAll'. -/
def lexAllUptoCard : Claim7 := { stood := { row := lexAllUptoRow, standIns := [], harness := (true, "1118aad0860922667d286adbc9ba86ba553ad50f7af19ce0322ce68dcf370000"), looks := true }, kinds := [], alts := [], laidByText := true, laidKinds := [.data, .pinned], laidTests := true, laidLooks := .later }
def LexAllUptoCardSaid : Prop := Claim7.holds Tryd.pinned (.plain (OpenSpec.upto lexAllSpec)) lexAllUptoCard

/-- THE SECOND FORM's CARD OF 'clerestorylaw13.LexBlanks'. -/
def lexBlanksUptoCard : Claim7 := { stood := { row := lexBlanksUptoRow, standIns := [], harness := (true, "1118aad0860922667d286adbc9ba86ba553ad50f7af19ce0322ce68dcf370000"), looks := true }, kinds := [], alts := [], laidByText := true, laidKinds := [.data, .pinned], laidTests := true, laidLooks := .later }
def LexBlanksUptoCardSaid : Prop := Claim7.holds Tryd.pinned (.plain (OpenSpec.upto lexBlanksSpec)) lexBlanksUptoCard

/-- THE SECOND FORM's CARD OF 'clerestorylaw13.LexNumbers'. -/
def lexNumbersUptoCard : Claim7 := { stood := { row := lexNumbersUptoRow, standIns := [], harness := (true, "1118aad0860922667d286adbc9ba86ba553ad50f7af19ce0322ce68dcf370000"), looks := true }, kinds := [], alts := [], laidByText := true, laidKinds := [.data, .pinned], laidTests := true, laidLooks := .later }
def LexNumbersUptoCardSaid : Prop := Claim7.holds Tryd.pinned (.plain (OpenSpec.upto lexNumbersSpec)) lexNumbersUptoCard

/-- THE SECOND FORM's CARD OF 'clerestorylaw13.LexWords'. -/
def lexWordsUptoCard : Claim7 := { stood := { row := lexWordsUptoRow, standIns := [], harness := (true, "1118aad0860922667d286adbc9ba86ba553ad50f7af19ce0322ce68dcf370000"), looks := true }, kinds := [], alts := [], laidByText := true, laidKinds := [.data, .pinned], laidTests := true, laidLooks := .later }
def LexWordsUptoCardSaid : Prop := Claim7.holds Tryd.pinned (.plain (OpenSpec.upto lexWordsSpec)) lexWordsUptoCard

/-- THE SECOND FORM's CARD OF 'clerestorylaw01.RunesQuotes'. -/
def runesQuotesUptoCard : Claim7 := { stood := { row := runesQuotesUptoRow, standIns := [], harness := (true, "1118aad0860922667d286adbc9ba86ba553ad50f7af19ce0322ce68dcf370000"), looks := true }, kinds := [], alts := [], laidByText := true, laidKinds := [.data, .pinned], laidTests := true, laidLooks := .later }
def RunesQuotesUptoCardSaid : Prop := Claim7.holds Tryd.pinned (.plain (OpenSpec.upto runesQuotesSpec)) runesQuotesUptoCard

/-- THE SECOND FORM's CARD OF 'clerestorylaw01.RunesDoubled'. -/
def runesDoubledUptoCard : Claim7 := { stood := { row := runesDoubledUptoRow, standIns := [], harness := (true, "1118aad0860922667d286adbc9ba86ba553ad50f7af19ce0322ce68dcf370000"), looks := true }, kinds := [], alts := [], laidByText := true, laidKinds := [.data, .pinned], laidTests := true, laidLooks := .later }
def RunesDoubledUptoCardSaid : Prop := Claim7.holds Tryd.pinned (.plain (OpenSpec.upto runesDoubledSpec)) runesDoubledUptoCard

/-- THE SECOND FORM's CARD OF 'clerestorylaw01.RunesNames'. -/
def runesNamesUptoCard : Claim7 := { stood := { row := runesNamesUptoRow, standIns := [], harness := (true, "1118aad0860922667d286adbc9ba86ba553ad50f7af19ce0322ce68dcf370000"), looks := true }, kinds := [], alts := [], laidByText := true, laidKinds := [.data, .pinned], laidTests := true, laidLooks := .later }
def RunesNamesUptoCardSaid : Prop := Claim7.holds Tryd.pinned (.plain (OpenSpec.upto runesNamesSpec)) runesNamesUptoCard

/-- THE SECOND FORM's CARD OF 'clerestorylaw01.RunesGo'. -/
def runesGoUptoCard : Claim7 := { stood := { row := runesGoUptoRow, standIns := [], harness := (true, "1118aad0860922667d286adbc9ba86ba553ad50f7af19ce0322ce68dcf370000"), looks := true }, kinds := [], alts := [], laidByText := true, laidKinds := [.data, .pinned], laidTests := true, laidLooks := .later }
def RunesGoUptoCardSaid : Prop := Claim7.holds Tryd.pinned (.plain (OpenSpec.upto runesGoSpec)) runesGoUptoCard

/-- THE SECOND FORM's CARD OF 'clerestorylaw01.RunesParts'. -/
def runesPartsUptoCard : Claim7 := { stood := { row := runesPartsUptoRow, standIns := [], harness := (true, "1118aad0860922667d286adbc9ba86ba553ad50f7af19ce0322ce68dcf370000"), looks := true }, kinds := [], alts := [], laidByText := true, laidKinds := [.data, .pinned], laidTests := true, laidLooks := .later }
def RunesPartsUptoCardSaid : Prop := Claim7.holds Tryd.pinned (.plain (OpenSpec.upto runesPartsSpec)) runesPartsUptoCard

/-- THE SECOND FORM's CARD OF 'clerestorylaw01.RunesAll'. -/
def runesAllUptoCard : Claim7 := { stood := { row := runesAllUptoRow, standIns := [], harness := (true, "1118aad0860922667d286adbc9ba86ba553ad50f7af19ce0322ce68dcf370000"), looks := true }, kinds := [], alts := [], laidByText := true, laidKinds := [.data, .pinned], laidTests := true, laidLooks := .later }
def RunesAllUptoCardSaid : Prop := Claim7.holds Tryd.pinned (.plain (OpenSpec.upto runesAllSpec)) runesAllUptoCard
end Rows
end Go.Proofs.YtljoenpgokhekaaDoor
