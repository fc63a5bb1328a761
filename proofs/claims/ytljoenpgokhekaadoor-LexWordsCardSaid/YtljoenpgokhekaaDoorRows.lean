/-
  NARROWER THAN 'FOR EVERY INPUT', by the rows' own cells (each row's printed sentence says how): BindValues: laid · LexAll: laid · LexBlanks: laid · LexNumbers: laid · LexWords: laid · RunesQuotes: laid · RunesDoubled: laid · RunesNames: laid · RunesGo: laid · RunesParts: laid · RunesAll: laid.
  DERIVED. THE GIVEN ROWS OF THIS SEAT. 11 by the template 'for every input the law returns true; each argument reads behind the call as it read before'; 0 by the template 'total and deterministic' (their statements: YtljoenpgokhekaaDoorTotals.lean).
  GIVEN WITH THE SEED: the statements are not yours to turn. If you find one false, say at which input.
  Laid BY PROGRAM, IN A SANDBOX (cutbox-rows.mjs): the forced cells as the released guide's own fill.sh prints them over the translation b7a5c37a5954d8a2… (all of the seat's roots in one cut). By AI agents, Wed Nov 11 2026. No macro, syntax, notation, axiom, sorry.
-/
import Derived.Test.YtljoenpgokhekaaDoorChecked
import GoSem.PinnedTables
import GoSem.Claim
import GoSem.ClaimJoined
import GoSem.ClaimMapViews
import Derived.JoinedTies
import Derived.KernelRfl
namespace Go.Proofs.YtljoenpgokhekaaDoor
/- THE CELL 'sum', in the pinned program and in every row, IS THE sha256 OF THE DUMP (.gsa) THAT YtljoenpgokhekaaDoorProg.lean LOADS. Nothing in Lean hashes anything: it is a label: what it is worth is what the hold of that sum in a sandbox is worth. -/
noncomputable def Tryd.pinned : Pinned := { name := "ytljoenpgokhekaadoor", sum := "b7a5c37a5954d8a23bcda16edb3d7497243d08c3d76ecc72f8fdd3592a1ef095", checked := Tryd.checked }
namespace Rows
def none {H : Type} : Left H := { results := [], args := [] }

/- WHAT THE LISTED PACKAGE-LEVEL VARIABLES READ AS WHEN THE CALL BEGINS. Each datum BY PROGRAM (the guide's laid-datum.mjs) off the statement by which the dump's own 'gosem.cut.vars' lays the variable. In a bare row this is a premise. The card (YtljoenpgokhekaaDoorCards.lean) ties it to the program's text. -/
def laid_unicode_utf8_acceptRanges {H : Type} : DataW H := .agg [.agg [.lit (.int .u8 128), .lit (.int .u8 191)], .agg [.lit (.int .u8 160), .lit (.int .u8 191)], .agg [.lit (.int .u8 128), .lit (.int .u8 159)], .agg [.lit (.int .u8 144), .lit (.int .u8 191)], .agg [.lit (.int .u8 128), .lit (.int .u8 143)], .agg [.lit (.int .u8 0), .lit (.int .u8 0)], .agg [.lit (.int .u8 0), .lit (.int .u8 0)], .agg [.lit (.int .u8 0), .lit (.int .u8 0)], .agg [.lit (.int .u8 0), .lit (.int .u8 0)], .agg [.lit (.int .u8 0), .lit (.int .u8 0)], .agg [.lit (.int .u8 0), .lit (.int .u8 0)], .agg [.lit (.int .u8 0), .lit (.int .u8 0)], .agg [.lit (.int .u8 0), .lit (.int .u8 0)], .agg [.lit (.int .u8 0), .lit (.int .u8 0)], .agg [.lit (.int .u8 0), .lit (.int .u8 0)], .agg [.lit (.int .u8 0), .lit (.int .u8 0)]]
/-- One of Go's own tables, pinned by name: the form's constant. -/
def laid_unicode_utf8_first : DataW Unit := Go.Pinned.utf8First

/-- 'clerestorylaw17.BindValues': WHATEVER THE INPUT: true; the input reads as it did. -/
def bindValuesSpec : ChangeSpec := { name := "bindValues", fn := fun _ => fun
  | [d1, d2, d3, d4] => { results := [.lit (.bool true)], args := [d1, d2, d3, d4] }
  | _ => none }
def bindValuesRow : OpenClaim := { program := "ytljoenpgokhekaadoor", sum := "b7a5c37a5954d8a23bcda16edb3d7497243d08c3d76ecc72f8fdd3592a1ef095", func := "clerestory/clerestorylaw17.BindValues", spec := "bindValues", named := ["unicode/utf8.first", "unicode/utf8.acceptRanges"], apart := false, laid := [("unicode/utf8.acceptRanges", laid_unicode_utf8_acceptRanges), ("unicode/utf8.first", laid_unicode_utf8_first)] }
def BindValuesSaid : Prop := bindValuesRow.holds Tryd.pinned (OpenSpec.ofChange bindValuesSpec)

/-- ITS FALSE NEIGHBOUR: 'it returns false'. Refute it at one input. -/
def bindValuesWrong : ChangeSpec := { name := "bindValues", fn := fun _ => fun
  | [d1, d2, d3, d4] => { results := [.lit (.bool false)], args := [d1, d2, d3, d4] }
  | _ => none }
def BindValuesWrongFalsely : Prop := bindValuesRow.holds Tryd.pinned (OpenSpec.ofChange bindValuesWrong)

/-- 'clerestorylaw13.LexAll': WHATEVER THE INPUT: true; the input reads as it did. -/
def lexAllSpec : ChangeSpec := { name := "lexAll", fn := fun _ => fun
  | [d] => { results := [.lit (.bool true)], args := [d] }
  | _ => none }
def lexAllRow : OpenClaim := { program := "ytljoenpgokhekaadoor", sum := "b7a5c37a5954d8a23bcda16edb3d7497243d08c3d76ecc72f8fdd3592a1ef095", func := "clerestory/clerestorylaw13.LexAll", spec := "lexAll", inPlace := ["internal/abi.NoEscape"], named := ["unicode/utf8.first", "unicode/utf8.acceptRanges"], apart := false, laid := [("unicode/utf8.acceptRanges", laid_unicode_utf8_acceptRanges), ("unicode/utf8.first", laid_unicode_utf8_first)] }
def LexAllSaid : Prop := lexAllRow.holds Tryd.pinned (OpenSpec.ofChange lexAllSpec)

/-- ITS FALSE NEIGHBOUR: 'it returns false'. Refute it at one input. -/
def lexAllWrong : ChangeSpec := { name := "lexAll", fn := fun _ => fun
  | [d] => { results := [.lit (.bool false)], args := [d] }
  | _ => none }
def LexAllWrongFalsely : Prop := lexAllRow.holds Tryd.pinned (OpenSpec.ofChange lexAllWrong)

/-- 'clerestorylaw13.LexBlanks': WHATEVER THE INPUT: true; the input reads as it did. -/
def lexBlanksSpec : ChangeSpec := { name := "lexBlanks", fn := fun _ => fun
  | [d1, d2, d3] => { results := [.lit (.bool true)], args := [d1, d2, d3] }
  | _ => none }
def lexBlanksRow : OpenClaim := { program := "ytljoenpgokhekaadoor", sum := "b7a5c37a5954d8a23bcda16edb3d7497243d08c3d76ecc72f8fdd3592a1ef095", func := "clerestory/clerestorylaw13.LexBlanks", spec := "lexBlanks", inPlace := ["internal/abi.NoEscape"], named := ["unicode/utf8.first", "unicode/utf8.acceptRanges"], apart := false, laid := [("unicode/utf8.acceptRanges", laid_unicode_utf8_acceptRanges), ("unicode/utf8.first", laid_unicode_utf8_first)] }
def LexBlanksSaid : Prop := lexBlanksRow.holds Tryd.pinned (OpenSpec.ofChange lexBlanksSpec)

/-- ITS FALSE NEIGHBOUR: 'it returns false'. Refute it at one input. -/
def lexBlanksWrong : ChangeSpec := { name := "lexBlanks", fn := fun _ => fun
  | [d1, d2, d3] => { results := [.lit (.bool false)], args := [d1, d2, d3] }
  | _ => none }
def LexBlanksWrongFalsely : Prop := lexBlanksRow.holds Tryd.pinned (OpenSpec.ofChange lexBlanksWrong)

/-- 'clerestorylaw13.LexNumbers': WHATEVER THE INPUT: true; the input reads as it did. -/
def lexNumbersSpec : ChangeSpec := { name := "lexNumbers", fn := fun _ => fun
  | [d1, d2] => { results := [.lit (.bool true)], args := [d1, d2] }
  | _ => none }
def lexNumbersRow : OpenClaim := { program := "ytljoenpgokhekaadoor", sum := "b7a5c37a5954d8a23bcda16edb3d7497243d08c3d76ecc72f8fdd3592a1ef095", func := "clerestory/clerestorylaw13.LexNumbers", spec := "lexNumbers", inPlace := ["internal/abi.NoEscape"], named := ["unicode/utf8.first", "unicode/utf8.acceptRanges"], apart := false, laid := [("unicode/utf8.acceptRanges", laid_unicode_utf8_acceptRanges), ("unicode/utf8.first", laid_unicode_utf8_first)] }
def LexNumbersSaid : Prop := lexNumbersRow.holds Tryd.pinned (OpenSpec.ofChange lexNumbersSpec)

/-- ITS FALSE NEIGHBOUR: 'it returns false'. Refute it at one input. -/
def lexNumbersWrong : ChangeSpec := { name := "lexNumbers", fn := fun _ => fun
  | [d1, d2] => { results := [.lit (.bool false)], args := [d1, d2] }
  | _ => none }
def LexNumbersWrongFalsely : Prop := lexNumbersRow.holds Tryd.pinned (OpenSpec.ofChange lexNumbersWrong)

/-- 'clerestorylaw13.LexWords': WHATEVER THE INPUT: true; the input reads as it did. -/
def lexWordsSpec : ChangeSpec := { name := "lexWords", fn := fun _ => fun
  | [d] => { results := [.lit (.bool true)], args := [d] }
  | _ => none }
def lexWordsRow : OpenClaim := { program := "ytljoenpgokhekaadoor", sum := "b7a5c37a5954d8a23bcda16edb3d7497243d08c3d76ecc72f8fdd3592a1ef095", func := "clerestory/clerestorylaw13.LexWords", spec := "lexWords", inPlace := ["internal/abi.NoEscape"], recurses := true, named := ["unicode/utf8.first", "unicode/utf8.acceptRanges"], apart := false, laid := [("unicode/utf8.acceptRanges", laid_unicode_utf8_acceptRanges), ("unicode/utf8.first", laid_unicode_utf8_first)] }
def LexWordsSaid : Prop := lexWordsRow.holds Tryd.pinned (OpenSpec.ofChange lexWordsSpec)

/-- ITS FALSE NEIGHBOUR: 'it returns false'. Refute it at one input. -/
def lexWordsWrong : ChangeSpec := { name := "lexWords", fn := fun _ => fun
  | [d] => { results := [.lit (.bool false)], args := [d] }
  | _ => none }
def LexWordsWrongFalsely : Prop := lexWordsRow.holds Tryd.pinned (OpenSpec.ofChange lexWordsWrong)

/-- 'clerestorylaw01.RunesQuotes': WHATEVER THE INPUT: true; the input reads as it did. -/
def runesQuotesSpec : ChangeSpec := { name := "runesQuotes", fn := fun _ => fun
  | [d1, d2, d3] => { results := [.lit (.bool true)], args := [d1, d2, d3] }
  | _ => none }
def runesQuotesRow : OpenClaim := { program := "ytljoenpgokhekaadoor", sum := "b7a5c37a5954d8a23bcda16edb3d7497243d08c3d76ecc72f8fdd3592a1ef095", func := "clerestory/clerestorylaw01.RunesQuotes", spec := "runesQuotes", inPlace := ["internal/abi.NoEscape", "internal/bytealg.CountString", "internal/bytealg.IndexByteString", "internal/bytealg.IndexString", "internal/bytealg.MakeNoZero"], named := ["internal/bytealg.MaxLen", "unicode/utf8.first", "unicode/utf8.acceptRanges"], apart := false, laid := [("unicode/utf8.acceptRanges", laid_unicode_utf8_acceptRanges), ("unicode/utf8.first", laid_unicode_utf8_first)] }
def RunesQuotesSaid : Prop := runesQuotesRow.holds Tryd.pinned (OpenSpec.ofChange runesQuotesSpec)

/-- ITS FALSE NEIGHBOUR: 'it returns false'. Refute it at one input. -/
def runesQuotesWrong : ChangeSpec := { name := "runesQuotes", fn := fun _ => fun
  | [d1, d2, d3] => { results := [.lit (.bool false)], args := [d1, d2, d3] }
  | _ => none }
def RunesQuotesWrongFalsely : Prop := runesQuotesRow.holds Tryd.pinned (OpenSpec.ofChange runesQuotesWrong)

/-- 'clerestorylaw01.RunesDoubled': WHATEVER THE INPUT: true; the input reads as it did. -/
def runesDoubledSpec : ChangeSpec := { name := "runesDoubled", fn := fun _ => fun
  | [d] => { results := [.lit (.bool true)], args := [d] }
  | _ => none }
def runesDoubledRow : OpenClaim := { program := "ytljoenpgokhekaadoor", sum := "b7a5c37a5954d8a23bcda16edb3d7497243d08c3d76ecc72f8fdd3592a1ef095", func := "clerestory/clerestorylaw01.RunesDoubled", spec := "runesDoubled", inPlace := ["internal/abi.NoEscape", "internal/bytealg.CountString", "internal/bytealg.IndexByteString", "internal/bytealg.IndexString", "internal/bytealg.MakeNoZero"], named := ["internal/bytealg.MaxLen", "unicode/utf8.first", "unicode/utf8.acceptRanges"], apart := false, laid := [("unicode/utf8.acceptRanges", laid_unicode_utf8_acceptRanges), ("unicode/utf8.first", laid_unicode_utf8_first)] }
def RunesDoubledSaid : Prop := runesDoubledRow.holds Tryd.pinned (OpenSpec.ofChange runesDoubledSpec)

/-- ITS FALSE NEIGHBOUR: 'it returns false'. Refute it at one input. -/
def runesDoubledWrong : ChangeSpec := { name := "runesDoubled", fn := fun _ => fun
  | [d] => { results := [.lit (.bool false)], args := [d] }
  | _ => none }
def RunesDoubledWrongFalsely : Prop := runesDoubledRow.holds Tryd.pinned (OpenSpec.ofChange runesDoubledWrong)

/-- 'clerestorylaw01.RunesNames': WHATEVER THE INPUT: true; the input reads as it did. -/
def runesNamesSpec : ChangeSpec := { name := "runesNames", fn := fun _ => fun
  | [d1, d2] => { results := [.lit (.bool true)], args := [d1, d2] }
  | _ => none }
def runesNamesRow : OpenClaim := { program := "ytljoenpgokhekaadoor", sum := "b7a5c37a5954d8a23bcda16edb3d7497243d08c3d76ecc72f8fdd3592a1ef095", func := "clerestory/clerestorylaw01.RunesNames", spec := "runesNames", inPlace := ["internal/abi.NoEscape", "internal/bytealg.CountString", "internal/bytealg.IndexByteString", "internal/bytealg.IndexString", "internal/bytealg.MakeNoZero"], named := ["internal/bytealg.MaxLen", "unicode/utf8.first", "unicode/utf8.acceptRanges"], apart := false, laid := [("unicode/utf8.acceptRanges", laid_unicode_utf8_acceptRanges), ("unicode/utf8.first", laid_unicode_utf8_first)] }
def RunesNamesSaid : Prop := runesNamesRow.holds Tryd.pinned (OpenSpec.ofChange runesNamesSpec)

/-- ITS FALSE NEIGHBOUR: 'it returns false'. Refute it at one input. -/
def runesNamesWrong : ChangeSpec := { name := "runesNames", fn := fun _ => fun
  | [d1, d2] => { results := [.lit (.bool false)], args := [d1, d2] }
  | _ => none }
def RunesNamesWrongFalsely : Prop := runesNamesRow.holds Tryd.pinned (OpenSpec.ofChange runesNamesWrong)

/-- 'clerestorylaw01.RunesGo': WHATEVER THE INPUT: true; the input reads as it did. -/
def runesGoSpec : ChangeSpec := { name := "runesGo", fn := fun _ => fun
  | [d] => { results := [.lit (.bool true)], args := [d] }
  | _ => none }
def runesGoRow : OpenClaim := { program := "ytljoenpgokhekaadoor", sum := "b7a5c37a5954d8a23bcda16edb3d7497243d08c3d76ecc72f8fdd3592a1ef095", func := "clerestory/clerestorylaw01.RunesGo", spec := "runesGo", inPlace := ["internal/abi.NoEscape", "internal/bytealg.CountString", "internal/bytealg.IndexByteString", "internal/bytealg.IndexString", "internal/bytealg.MakeNoZero"], named := ["internal/bytealg.MaxLen", "unicode/utf8.first", "unicode/utf8.acceptRanges"], apart := false, laid := [("unicode/utf8.acceptRanges", laid_unicode_utf8_acceptRanges), ("unicode/utf8.first", laid_unicode_utf8_first)] }
def RunesGoSaid : Prop := runesGoRow.holds Tryd.pinned (OpenSpec.ofChange runesGoSpec)

/-- ITS FALSE NEIGHBOUR: 'it returns false'. Refute it at one input. -/
def runesGoWrong : ChangeSpec := { name := "runesGo", fn := fun _ => fun
  | [d] => { results := [.lit (.bool false)], args := [d] }
  | _ => none }
def RunesGoWrongFalsely : Prop := runesGoRow.holds Tryd.pinned (OpenSpec.ofChange runesGoWrong)

/-- 'clerestorylaw01.RunesParts': WHATEVER THE INPUT: true; the input reads as it did. -/
def runesPartsSpec : ChangeSpec := { name := "runesParts", fn := fun _ => fun
  | [d1, d2, d3] => { results := [.lit (.bool true)], args := [d1, d2, d3] }
  | _ => none }
def runesPartsRow : OpenClaim := { program := "ytljoenpgokhekaadoor", sum := "b7a5c37a5954d8a23bcda16edb3d7497243d08c3d76ecc72f8fdd3592a1ef095", func := "clerestory/clerestorylaw01.RunesParts", spec := "runesParts", inPlace := ["internal/abi.NoEscape", "internal/bytealg.CountString", "internal/bytealg.IndexByteString", "internal/bytealg.IndexString", "internal/bytealg.MakeNoZero"], named := ["unicode/utf8.first", "unicode/utf8.acceptRanges", "internal/bytealg.MaxLen"], apart := false, laid := [("unicode/utf8.acceptRanges", laid_unicode_utf8_acceptRanges), ("unicode/utf8.first", laid_unicode_utf8_first)] }
def RunesPartsSaid : Prop := runesPartsRow.holds Tryd.pinned (OpenSpec.ofChange runesPartsSpec)

/-- ITS FALSE NEIGHBOUR: 'it returns false'. Refute it at one input. -/
def runesPartsWrong : ChangeSpec := { name := "runesParts", fn := fun _ => fun
  | [d1, d2, d3] => { results := [.lit (.bool false)], args := [d1, d2, d3] }
  | _ => none }
def RunesPartsWrongFalsely : Prop := runesPartsRow.holds Tryd.pinned (OpenSpec.ofChange runesPartsWrong)

/-- 'clerestorylaw01.RunesAll': WHATEVER THE INPUT: true; the input reads as it did. -/
def runesAllSpec : ChangeSpec := { name := "runesAll", fn := fun _ => fun
  | [d1, d2, d3] => { results := [.lit (.bool true)], args := [d1, d2, d3] }
  | _ => none }
def runesAllRow : OpenClaim := { program := "ytljoenpgokhekaadoor", sum := "b7a5c37a5954d8a23bcda16edb3d7497243d08c3d76ecc72f8fdd3592a1ef095", func := "clerestory/clerestorylaw01.RunesAll", spec := "runesAll", inPlace := ["internal/abi.NoEscape", "internal/bytealg.CountString", "internal/bytealg.IndexByteString", "internal/bytealg.IndexString", "internal/bytealg.MakeNoZero"], named := ["internal/bytealg.MaxLen", "unicode/utf8.first", "unicode/utf8.acceptRanges"], apart := false, laid := [("unicode/utf8.acceptRanges", laid_unicode_utf8_acceptRanges), ("unicode/utf8.first", laid_unicode_utf8_first)] }
def RunesAllSaid : Prop := runesAllRow.holds Tryd.pinned (OpenSpec.ofChange runesAllSpec)

/-- ITS FALSE NEIGHBOUR: 'it returns false'. Refute it at one input. -/
def runesAllWrong : ChangeSpec := { name := "runesAll", fn := fun _ => fun
  | [d1, d2, d3] => { results := [.lit (.bool false)], args := [d1, d2, d3] }
  | _ => none }
def RunesAllWrongFalsely : Prop := runesAllRow.holds Tryd.pinned (OpenSpec.ofChange runesAllWrong)

/- THE SECOND FORM. 'bulk': how many values and letters a reading holds, each counted each time it is reached (what is shared counts as often as it is met; a slice's spare places count too). A statement '..UptoSaid' is the law's where the arguments, and the package variables that the reading takes, are together of bulk at most 1048576: NARROWER than '..Said'. Prove '..Said' where nothing that the law and all that it calls make is longer than what came in: it says more and counts as full. Else prove '..UptoSaid'. A law counts once. -/
mutual
def uptoBulk {H : Type} : DataW H → Nat
  | .lit (.string bytes) => bytes.length + 1
  | .lit _ => 1
  | .nil => 1
  | .ptr d => uptoBulk d + 1
  | .slice elems spare => uptoBulkAll elems + uptoBulkAll spare + 1
  | .agg parts => uptoBulkAll parts + 1
  | .iface _ d => uptoBulk d + 1
  | .map entries => uptoBulkEntries entries + 1
  | .held _ => 1
def uptoBulkAll {H : Type} : List (DataW H) → Nat
  | [] => 0
  | d :: r => uptoBulk d + uptoBulkAll r
def uptoBulkEntries {H : Type} : List (Lit × DataW H) → Nat
  | [] => 0
  | x :: r => uptoBulkEntry x + uptoBulkEntries r
def uptoBulkEntry {H : Type} : Lit × DataW H → Nat
  | (.string bytes, d) => bytes.length + uptoBulk d + 1
  | (_, d) => uptoBulk d + 1
 end
def uptoSmall : (H : Type) → List (DataW H) → Bool := fun _ ds => decide (uptoBulkAll ds ≤ 1048576)
def OpenSpec.upto (s : _root_.Go.ChangeSpec) : _root_.Go.OpenSpec := { _root_.Go.OpenSpec.ofChange s with cond := some uptoSmall }

/-- 'clerestorylaw17.BindValues', WHERE WHAT IT READS IS OF BULK AT MOST 1048576: true; the input reads as it did. -/
def bindValuesUptoRow : OpenClaim := { program := "ytljoenpgokhekaadoor", sum := "b7a5c37a5954d8a23bcda16edb3d7497243d08c3d76ecc72f8fdd3592a1ef095", func := "clerestory/clerestorylaw17.BindValues", spec := "bindValues", named := ["unicode/utf8.first", "unicode/utf8.acceptRanges"], apart := false, laid := [("unicode/utf8.acceptRanges", laid_unicode_utf8_acceptRanges), ("unicode/utf8.first", laid_unicode_utf8_first)], narrowed := true }
def BindValuesUptoSaid : Prop := bindValuesUptoRow.holds Tryd.pinned (OpenSpec.upto bindValuesSpec)

/-- 'clerestorylaw13.LexAll', WHERE WHAT IT READS IS OF BULK AT MOST 1048576: true; the input reads as it did. -/
def lexAllUptoRow : OpenClaim := { program := "ytljoenpgokhekaadoor", sum := "b7a5c37a5954d8a23bcda16edb3d7497243d08c3d76ecc72f8fdd3592a1ef095", func := "clerestory/clerestorylaw13.LexAll", spec := "lexAll", inPlace := ["internal/abi.NoEscape"], named := ["unicode/utf8.first", "unicode/utf8.acceptRanges"], apart := false, laid := [("unicode/utf8.acceptRanges", laid_unicode_utf8_acceptRanges), ("unicode/utf8.first", laid_unicode_utf8_first)], narrowed := true }
def LexAllUptoSaid : Prop := lexAllUptoRow.holds Tryd.pinned (OpenSpec.upto lexAllSpec)

/-- 'clerestorylaw13.LexBlanks', WHERE WHAT IT READS IS OF BULK AT MOST 1048576: true; the input reads as it did. -/
def lexBlanksUptoRow : OpenClaim := { program := "ytljoenpgokhekaadoor", sum := "b7a5c37a5954d8a23bcda16edb3d7497243d08c3d76ecc72f8fdd3592a1ef095", func := "clerestory/clerestorylaw13.LexBlanks", spec := "lexBlanks", inPlace := ["internal/abi.NoEscape"], named := ["unicode/utf8.first", "unicode/utf8.acceptRanges"], apart := false, laid := [("unicode/utf8.acceptRanges", laid_unicode_utf8_acceptRanges), ("unicode/utf8.first", laid_unicode_utf8_first)], narrowed := true }
def LexBlanksUptoSaid : Prop := lexBlanksUptoRow.holds Tryd.pinned (OpenSpec.upto lexBlanksSpec)

/-- 'clerestorylaw13.LexNumbers', WHERE WHAT IT READS IS OF BULK AT MOST 1048576: true; the input reads as it did. -/
def lexNumbersUptoRow : OpenClaim := { program := "ytljoenpgokhekaadoor", sum := "b7a5c37a5954d8a23bcda16edb3d7497243d08c3d76ecc72f8fdd3592a1ef095", func := "clerestory/clerestorylaw13.LexNumbers", spec := "lexNumbers", inPlace := ["internal/abi.NoEscape"], named := ["unicode/utf8.first", "unicode/utf8.acceptRanges"], apart := false, laid := [("unicode/utf8.acceptRanges", laid_unicode_utf8_acceptRanges), ("unicode/utf8.first", laid_unicode_utf8_first)], narrowed := true }
def LexNumbersUptoSaid : Prop := lexNumbersUptoRow.holds Tryd.pinned (OpenSpec.upto lexNumbersSpec)

/-- 'clerestorylaw13.LexWords', WHERE WHAT IT READS IS OF BULK AT MOST 1048576: true; the input reads as it did. -/
def lexWordsUptoRow : OpenClaim := { program := "ytljoenpgokhekaadoor", sum := "b7a5c37a5954d8a23bcda16edb3d7497243d08c3d76ecc72f8fdd3592a1ef095", func := "clerestory/clerestorylaw13.LexWords", spec := "lexWords", inPlace := ["internal/abi.NoEscape"], recurses := true, named := ["unicode/utf8.first", "unicode/utf8.acceptRanges"], apart := false, laid := [("unicode/utf8.acceptRanges", laid_unicode_utf8_acceptRanges), ("unicode/utf8.first", laid_unicode_utf8_first)], narrowed := true }
def LexWordsUptoSaid : Prop := lexWordsUptoRow.holds Tryd.pinned (OpenSpec.upto lexWordsSpec)

/-- 'clerestorylaw01.RunesQuotes', WHERE WHAT IT READS IS OF BULK AT MOST 1048576: true; the input reads as it did. -/
def runesQuotesUptoRow : OpenClaim := { program := "ytljoenpgokhekaadoor", sum := "b7a5c37a5954d8a23bcda16edb3d7497243d08c3d76ecc72f8fdd3592a1ef095", func := "clerestory/clerestorylaw01.RunesQuotes", spec := "runesQuotes", inPlace := ["internal/abi.NoEscape", "internal/bytealg.CountString", "internal/bytealg.IndexByteString", "internal/bytealg.IndexString", "internal/bytealg.MakeNoZero"], named := ["internal/bytealg.MaxLen", "unicode/utf8.first", "unicode/utf8.acceptRanges"], apart := false, laid := [("unicode/utf8.acceptRanges", laid_unicode_utf8_acceptRanges), ("unicode/utf8.first", laid_unicode_utf8_first)], narrowed := true }
def RunesQuotesUptoSaid : Prop := runesQuotesUptoRow.holds Tryd.pinned (OpenSpec.upto runesQuotesSpec)

/-- 'clerestorylaw01.RunesDoubled', WHERE WHAT IT READS IS OF BULK AT MOST 1048576: true; the input reads as it did. -/
def runesDoubledUptoRow : OpenClaim := { program := "ytljoenpgokhekaadoor", sum := "b7a5c37a5954d8a23bcda16edb3d7497243d08c3d76ecc72f8fdd3592a1ef095", func := "clerestory/clerestorylaw01.RunesDoubled", spec := "runesDoubled", inPlace := ["internal/abi.NoEscape", "internal/bytealg.CountString", "internal/bytealg.IndexByteString", "internal/bytealg.IndexString", "internal/bytealg.MakeNoZero"], named := ["internal/bytealg.MaxLen", "unicode/utf8.first", "unicode/utf8.acceptRanges"], apart := false, laid := [("unicode/utf8.acceptRanges", laid_unicode_utf8_acceptRanges), ("unicode/utf8.first", laid_unicode_utf8_first)], narrowed := true }
def RunesDoubledUptoSaid : Prop := runesDoubledUptoRow.holds Tryd.pinned (OpenSpec.upto runesDoubledSpec)

/-- 'clerestorylaw01.RunesNames', WHERE WHAT IT READS IS OF BULK AT MOST 1048576: true; the input reads as it did. -/
def runesNamesUptoRow : OpenClaim := { program := "ytljoenpgokhekaadoor", sum := "b7a5c37a5954d8a23bcda16edb3d7497243d08c3d76ecc72f8fdd3592a1ef095", func := "clerestory/clerestorylaw01.RunesNames", spec := "runesNames", inPlace := ["internal/abi.NoEscape", "internal/bytealg.CountString", "internal/bytealg.IndexByteString", "internal/bytealg.IndexString", "internal/bytealg.MakeNoZero"], named := ["internal/bytealg.MaxLen", "unicode/utf8.first", "unicode/utf8.acceptRanges"], apart := false, laid := [("unicode/utf8.acceptRanges", laid_unicode_utf8_acceptRanges), ("unicode/utf8.first", laid_unicode_utf8_first)], narrowed := true }
def RunesNamesUptoSaid : Prop := runesNamesUptoRow.holds Tryd.pinned (OpenSpec.upto runesNamesSpec)

/-- 'clerestorylaw01.RunesGo', WHERE WHAT IT READS IS OF BULK AT MOST 1048576: true; the input reads as it did. -/
def runesGoUptoRow : OpenClaim := { program := "ytljoenpgokhekaadoor", sum := "b7a5c37a5954d8a23bcda16edb3d7497243d08c3d76ecc72f8fdd3592a1ef095", func := "clerestory/clerestorylaw01.RunesGo", spec := "runesGo", inPlace := ["internal/abi.NoEscape", "internal/bytealg.CountString", "internal/bytealg.IndexByteString", "internal/bytealg.IndexString", "internal/bytealg.MakeNoZero"], named := ["internal/bytealg.MaxLen", "unicode/utf8.first", "unicode/utf8.acceptRanges"], apart := false, laid := [("unicode/utf8.acceptRanges", laid_unicode_utf8_acceptRanges), ("unicode/utf8.first", laid_unicode_utf8_first)], narrowed := true }
def RunesGoUptoSaid : Prop := runesGoUptoRow.holds Tryd.pinned (OpenSpec.upto runesGoSpec)

/-- 'clerestorylaw01.RunesParts', WHERE WHAT IT READS IS OF BULK AT MOST 1048576: true; the input reads as it did. -/
def runesPartsUptoRow : OpenClaim := { program := "ytljoenpgokhekaadoor", sum := "b7a5c37a5954d8a23bcda16edb3d7497243d08c3d76ecc72f8fdd3592a1ef095", func := "clerestory/clerestorylaw01.RunesParts", spec := "runesParts", inPlace := ["internal/abi.NoEscape", "internal/bytealg.CountString", "internal/bytealg.IndexByteString", "internal/bytealg.IndexString", "internal/bytealg.MakeNoZero"], named := ["unicode/utf8.first", "unicode/utf8.acceptRanges", "internal/bytealg.MaxLen"], apart := false, laid := [("unicode/utf8.acceptRanges", laid_unicode_utf8_acceptRanges), ("unicode/utf8.first", laid_unicode_utf8_first)], narrowed := true }
def RunesPartsUptoSaid : Prop := runesPartsUptoRow.holds Tryd.pinned (OpenSpec.upto runesPartsSpec)

/-- 'clerestorylaw01.RunesAll', WHERE WHAT IT READS IS OF BULK AT MOST 1048576: true; the input reads as it did. -/
def runesAllUptoRow : OpenClaim := { program := "ytljoenpgokhekaadoor", sum := "b7a5c37a5954d8a23bcda16edb3d7497243d08c3d76ecc72f8fdd3592a1ef095", func := "clerestory/clerestorylaw01.RunesAll", spec := "runesAll", inPlace := ["internal/abi.NoEscape", "internal/bytealg.CountString", "internal/bytealg.IndexByteString", "internal/bytealg.IndexString", "internal/bytealg.MakeNoZero"], named := ["internal/bytealg.MaxLen", "unicode/utf8.first", "unicode/utf8.acceptRanges"], apart := false, laid := [("unicode/utf8.acceptRanges", laid_unicode_utf8_acceptRanges), ("unicode/utf8.first", laid_unicode_utf8_first)], narrowed := true }
def RunesAllUptoSaid : Prop := runesAllUptoRow.holds Tryd.pinned (OpenSpec.upto runesAllSpec)

end Rows
end Go.Proofs.YtljoenpgokhekaaDoor
