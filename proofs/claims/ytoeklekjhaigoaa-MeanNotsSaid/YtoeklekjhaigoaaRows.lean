/-
  NARROWER THAN 'FOR EVERY INPUT', by the rows' own cells (each row's printed sentence says how): MeanHolds: loops · MeanNots: loops · MeanRules: loops · MeanAll: loops · MeanEvals: loops · WordMakes: loops · WordMeans: loops · WordAnswers: loops · TypesConds: loops · TypesChecks: loops · TypesOrder: loops · TypesNots: loops · TypesBare: loops · TreeNumbers: loops · TreeMeans: loops · TreeBare: loops · TreeOrder: loops · TreeOthers: loops.
  DERIVED. THE GIVEN ROWS OF THIS SEAT. 27 by the template 'for every input the law returns true; each argument reads behind the call as it read before'; 0 by the template 'total and deterministic' (their statements: YtoeklekjhaigoaaTotals.lean).
  GIVEN WITH THE SEED: the statements are not yours to turn. If you find one false, say at which input.
  Laid BY PROGRAM, IN A SANDBOX (cutbox-rows.mjs): the forced cells as the released guide's own fill.sh prints them over the translation faaab7f591995469… (all of the seat's roots in one cut). By AI agents, Wed Nov 11 2026. No macro, syntax, notation, axiom, sorry.
-/
import Derived.Test.YtoeklekjhaigoaaChecked
import GoSem.Claim
import GoSem.ClaimJoined
import GoSem.ClaimMapViews
import Derived.JoinedTies
import Derived.KernelRfl
namespace Go.Proofs.Ytoeklekjhaigoaa
/- THE CELL 'sum', in the pinned program and in every row, IS THE sha256 OF THE DUMP (.gsa) THAT YtoeklekjhaigoaaProg.lean LOADS. Nothing in Lean hashes anything: it is a label: what it is worth is what the hold of that sum in a sandbox is worth. -/
noncomputable def Try.pinned : Pinned := { name := "ytoeklekjhaigoaa", sum := "faaab7f591995469e30671968d73d7a7152aaef2ec0370df37b1dfc11bf81a93", checked := Try.checked }
namespace Rows
def none {H : Type} : Left H := { results := [], args := [] }

/-- 'doorwardlaw13.CallApart': WHATEVER THE INPUT: true; the input reads as it did. -/
def callApartSpec : ChangeSpec := { name := "callApart", fn := fun _ => fun
  | [d1, d2, d3, d4] => { results := [.lit (.bool true)], args := [d1, d2, d3, d4] }
  | _ => none }
def callApartRow : OpenClaim := { program := "ytoeklekjhaigoaa", sum := "faaab7f591995469e30671968d73d7a7152aaef2ec0370df37b1dfc11bf81a93", func := "doorward/doorwardlaw13.CallApart", spec := "callApart", apart := false }
def CallApartSaid : Prop := callApartRow.holds Try.pinned (OpenSpec.ofChange callApartSpec)

/-- ITS FALSE NEIGHBOUR: 'it returns false'. Refute it at one input. -/
def callApartWrong : ChangeSpec := { name := "callApart", fn := fun _ => fun
  | [d1, d2, d3, d4] => { results := [.lit (.bool false)], args := [d1, d2, d3, d4] }
  | _ => none }
def CallApartWrongFalsely : Prop := callApartRow.holds Try.pinned (OpenSpec.ofChange callApartWrong)

/-- 'doorwardlaw13.CallActions': WHATEVER THE INPUT: true; the input reads as it did. -/
def callActionsSpec : ChangeSpec := { name := "callActions", fn := fun _ => fun
  | [d1, d2, d3, d4] => { results := [.lit (.bool true)], args := [d1, d2, d3, d4] }
  | _ => none }
def callActionsRow : OpenClaim := { program := "ytoeklekjhaigoaa", sum := "faaab7f591995469e30671968d73d7a7152aaef2ec0370df37b1dfc11bf81a93", func := "doorward/doorwardlaw13.CallActions", spec := "callActions", apart := false }
def CallActionsSaid : Prop := callActionsRow.holds Try.pinned (OpenSpec.ofChange callActionsSpec)

/-- ITS FALSE NEIGHBOUR: 'it returns false'. Refute it at one input. -/
def callActionsWrong : ChangeSpec := { name := "callActions", fn := fun _ => fun
  | [d1, d2, d3, d4] => { results := [.lit (.bool false)], args := [d1, d2, d3, d4] }
  | _ => none }
def CallActionsWrongFalsely : Prop := callActionsRow.holds Try.pinned (OpenSpec.ofChange callActionsWrong)

/-- 'doorwardlaw19.WordWalks': WHATEVER THE INPUT: true; the input reads as it did. -/
def wordWalksSpec : ChangeSpec := { name := "wordWalks", fn := fun _ => fun
  | [d1, d2] => { results := [.lit (.bool true)], args := [d1, d2] }
  | _ => none }
def wordWalksRow : OpenClaim := { program := "ytoeklekjhaigoaa", sum := "faaab7f591995469e30671968d73d7a7152aaef2ec0370df37b1dfc11bf81a93", func := "doorward/doorwardlaw19.WordWalks", spec := "wordWalks", unfollowed := true, recurses := true, apart := false }
def WordWalksSaid : Prop := wordWalksRow.holds Try.pinned (OpenSpec.ofChange wordWalksSpec)

/-- ITS FALSE NEIGHBOUR: 'it returns false'. Refute it at one input. -/
def wordWalksWrong : ChangeSpec := { name := "wordWalks", fn := fun _ => fun
  | [d1, d2] => { results := [.lit (.bool false)], args := [d1, d2] }
  | _ => none }
def WordWalksWrongFalsely : Prop := wordWalksRow.holds Try.pinned (OpenSpec.ofChange wordWalksWrong)

/-- 'doorwardlaw19.WordJoins': WHATEVER THE INPUT: true; the input reads as it did. -/
def wordJoinsSpec : ChangeSpec := { name := "wordJoins", fn := fun _ => fun
  | [d1, d2, d3] => { results := [.lit (.bool true)], args := [d1, d2, d3] }
  | _ => none }
def wordJoinsRow : OpenClaim := { program := "ytoeklekjhaigoaa", sum := "faaab7f591995469e30671968d73d7a7152aaef2ec0370df37b1dfc11bf81a93", func := "doorward/doorwardlaw19.WordJoins", spec := "wordJoins", unfollowed := true, recurses := true, apart := false }
def WordJoinsSaid : Prop := wordJoinsRow.holds Try.pinned (OpenSpec.ofChange wordJoinsSpec)

/-- ITS FALSE NEIGHBOUR: 'it returns false'. Refute it at one input. -/
def wordJoinsWrong : ChangeSpec := { name := "wordJoins", fn := fun _ => fun
  | [d1, d2, d3] => { results := [.lit (.bool false)], args := [d1, d2, d3] }
  | _ => none }
def WordJoinsWrongFalsely : Prop := wordJoinsRow.holds Try.pinned (OpenSpec.ofChange wordJoinsWrong)

/-- 'doorwardlaw13.CallNames': WHATEVER THE INPUT: true; the input reads as it did. -/
def callNamesSpec : ChangeSpec := { name := "callNames", fn := fun _ => fun
  | [d1, d2, d3, d4] => { results := [.lit (.bool true)], args := [d1, d2, d3, d4] }
  | _ => none }
def callNamesRow : OpenClaim := { program := "ytoeklekjhaigoaa", sum := "faaab7f591995469e30671968d73d7a7152aaef2ec0370df37b1dfc11bf81a93", func := "doorward/doorwardlaw13.CallNames", spec := "callNames", apart := false }
def CallNamesSaid : Prop := callNamesRow.holds Try.pinned (OpenSpec.ofChange callNamesSpec)

/-- ITS FALSE NEIGHBOUR: 'it returns false'. Refute it at one input. -/
def callNamesWrong : ChangeSpec := { name := "callNames", fn := fun _ => fun
  | [d1, d2, d3, d4] => { results := [.lit (.bool false)], args := [d1, d2, d3, d4] }
  | _ => none }
def CallNamesWrongFalsely : Prop := callNamesRow.holds Try.pinned (OpenSpec.ofChange callNamesWrong)

/-- 'doorwardlaw18.MeanHolds': WHATEVER THE INPUT: true; the input reads as it did. -/
def meanHoldsSpec : ChangeSpec := { name := "meanHolds", fn := fun _ => fun
  | [d1, d2] => { results := [.lit (.bool true)], args := [d1, d2] }
  | _ => none }
def meanHoldsRow : OpenClaim := { program := "ytoeklekjhaigoaa", sum := "faaab7f591995469e30671968d73d7a7152aaef2ec0370df37b1dfc11bf81a93", func := "doorward/doorwardlaw18.MeanHolds", spec := "meanHolds", unfollowed := true, recurses := true, loops := true, apart := false }
def MeanHoldsSaid : Prop := meanHoldsRow.holds Try.pinned (OpenSpec.ofChange meanHoldsSpec)

/-- ITS FALSE NEIGHBOUR: 'it returns false'. Refute it at one input. -/
def meanHoldsWrong : ChangeSpec := { name := "meanHolds", fn := fun _ => fun
  | [d1, d2] => { results := [.lit (.bool false)], args := [d1, d2] }
  | _ => none }
def MeanHoldsWrongFalsely : Prop := meanHoldsRow.holds Try.pinned (OpenSpec.ofChange meanHoldsWrong)

/-- 'doorwardlaw18.MeanNots': WHATEVER THE INPUT: true; the input reads as it did. -/
def meanNotsSpec : ChangeSpec := { name := "meanNots", fn := fun _ => fun
  | [d1, d2] => { results := [.lit (.bool true)], args := [d1, d2] }
  | _ => none }
def meanNotsRow : OpenClaim := { program := "ytoeklekjhaigoaa", sum := "faaab7f591995469e30671968d73d7a7152aaef2ec0370df37b1dfc11bf81a93", func := "doorward/doorwardlaw18.MeanNots", spec := "meanNots", unfollowed := true, recurses := true, loops := true, apart := false }
def MeanNotsSaid : Prop := meanNotsRow.holds Try.pinned (OpenSpec.ofChange meanNotsSpec)

/-- ITS FALSE NEIGHBOUR: 'it returns false'. Refute it at one input. -/
def meanNotsWrong : ChangeSpec := { name := "meanNots", fn := fun _ => fun
  | [d1, d2] => { results := [.lit (.bool false)], args := [d1, d2] }
  | _ => none }
def MeanNotsWrongFalsely : Prop := meanNotsRow.holds Try.pinned (OpenSpec.ofChange meanNotsWrong)

/-- 'doorwardlaw18.MeanRules': WHATEVER THE INPUT: true; the input reads as it did. -/
def meanRulesSpec : ChangeSpec := { name := "meanRules", fn := fun _ => fun
  | [d1, d2, d3] => { results := [.lit (.bool true)], args := [d1, d2, d3] }
  | _ => none }
def meanRulesRow : OpenClaim := { program := "ytoeklekjhaigoaa", sum := "faaab7f591995469e30671968d73d7a7152aaef2ec0370df37b1dfc11bf81a93", func := "doorward/doorwardlaw18.MeanRules", spec := "meanRules", unfollowed := true, recurses := true, loops := true, apart := false }
def MeanRulesSaid : Prop := meanRulesRow.holds Try.pinned (OpenSpec.ofChange meanRulesSpec)

/-- ITS FALSE NEIGHBOUR: 'it returns false'. Refute it at one input. -/
def meanRulesWrong : ChangeSpec := { name := "meanRules", fn := fun _ => fun
  | [d1, d2, d3] => { results := [.lit (.bool false)], args := [d1, d2, d3] }
  | _ => none }
def MeanRulesWrongFalsely : Prop := meanRulesRow.holds Try.pinned (OpenSpec.ofChange meanRulesWrong)

/-- 'doorwardlaw18.MeanSigns': WHATEVER THE INPUT: true; the input reads as it did. -/
def meanSignsSpec : ChangeSpec := { name := "meanSigns", fn := fun _ => fun
  | [d1, d2, d3, d4] => { results := [.lit (.bool true)], args := [d1, d2, d3, d4] }
  | _ => none }
def meanSignsRow : OpenClaim := { program := "ytoeklekjhaigoaa", sum := "faaab7f591995469e30671968d73d7a7152aaef2ec0370df37b1dfc11bf81a93", func := "doorward/doorwardlaw18.MeanSigns", spec := "meanSigns", unfollowed := true, recurses := true, apart := false }
def MeanSignsSaid : Prop := meanSignsRow.holds Try.pinned (OpenSpec.ofChange meanSignsSpec)

/-- ITS FALSE NEIGHBOUR: 'it returns false'. Refute it at one input. -/
def meanSignsWrong : ChangeSpec := { name := "meanSigns", fn := fun _ => fun
  | [d1, d2, d3, d4] => { results := [.lit (.bool false)], args := [d1, d2, d3, d4] }
  | _ => none }
def MeanSignsWrongFalsely : Prop := meanSignsRow.holds Try.pinned (OpenSpec.ofChange meanSignsWrong)

/-- 'doorwardlaw18.MeanAll': WHATEVER THE INPUT: true; the input reads as it did. -/
def meanAllSpec : ChangeSpec := { name := "meanAll", fn := fun _ => fun
  | [d1, d2, d3] => { results := [.lit (.bool true)], args := [d1, d2, d3] }
  | _ => none }
def meanAllRow : OpenClaim := { program := "ytoeklekjhaigoaa", sum := "faaab7f591995469e30671968d73d7a7152aaef2ec0370df37b1dfc11bf81a93", func := "doorward/doorwardlaw18.MeanAll", spec := "meanAll", unfollowed := true, recurses := true, loops := true, apart := false }
def MeanAllSaid : Prop := meanAllRow.holds Try.pinned (OpenSpec.ofChange meanAllSpec)

/-- ITS FALSE NEIGHBOUR: 'it returns false'. Refute it at one input. -/
def meanAllWrong : ChangeSpec := { name := "meanAll", fn := fun _ => fun
  | [d1, d2, d3] => { results := [.lit (.bool false)], args := [d1, d2, d3] }
  | _ => none }
def MeanAllWrongFalsely : Prop := meanAllRow.holds Try.pinned (OpenSpec.ofChange meanAllWrong)

/-- 'doorwardlaw13.CallWords': WHATEVER THE INPUT: true; the input reads as it did. -/
def callWordsSpec : ChangeSpec := { name := "callWords", fn := fun _ => fun
  | [d] => { results := [.lit (.bool true)], args := [d] }
  | _ => none }
def callWordsRow : OpenClaim := { program := "ytoeklekjhaigoaa", sum := "faaab7f591995469e30671968d73d7a7152aaef2ec0370df37b1dfc11bf81a93", func := "doorward/doorwardlaw13.CallWords", spec := "callWords", unfollowed := true, recurses := true, apart := false }
def CallWordsSaid : Prop := callWordsRow.holds Try.pinned (OpenSpec.ofChange callWordsSpec)

/-- ITS FALSE NEIGHBOUR: 'it returns false'. Refute it at one input. -/
def callWordsWrong : ChangeSpec := { name := "callWords", fn := fun _ => fun
  | [d] => { results := [.lit (.bool false)], args := [d] }
  | _ => none }
def CallWordsWrongFalsely : Prop := callWordsRow.holds Try.pinned (OpenSpec.ofChange callWordsWrong)

/-- 'doorwardlaw13.CallRecords': WHATEVER THE INPUT: true; the input reads as it did. -/
def callRecordsSpec : ChangeSpec := { name := "callRecords", fn := fun _ => fun
  | [d1, d2] => { results := [.lit (.bool true)], args := [d1, d2] }
  | _ => none }
def callRecordsRow : OpenClaim := { program := "ytoeklekjhaigoaa", sum := "faaab7f591995469e30671968d73d7a7152aaef2ec0370df37b1dfc11bf81a93", func := "doorward/doorwardlaw13.CallRecords", spec := "callRecords", unfollowed := true, recurses := true, apart := false }
def CallRecordsSaid : Prop := callRecordsRow.holds Try.pinned (OpenSpec.ofChange callRecordsSpec)

/-- ITS FALSE NEIGHBOUR: 'it returns false'. Refute it at one input. -/
def callRecordsWrong : ChangeSpec := { name := "callRecords", fn := fun _ => fun
  | [d1, d2] => { results := [.lit (.bool false)], args := [d1, d2] }
  | _ => none }
def CallRecordsWrongFalsely : Prop := callRecordsRow.holds Try.pinned (OpenSpec.ofChange callRecordsWrong)

/-- 'doorwardlaw13.CallBack': WHATEVER THE INPUT: true; the input reads as it did. -/
def callBackSpec : ChangeSpec := { name := "callBack", fn := fun _ => fun
  | [d1, d2, d3, d4] => { results := [.lit (.bool true)], args := [d1, d2, d3, d4] }
  | _ => none }
def callBackRow : OpenClaim := { program := "ytoeklekjhaigoaa", sum := "faaab7f591995469e30671968d73d7a7152aaef2ec0370df37b1dfc11bf81a93", func := "doorward/doorwardlaw13.CallBack", spec := "callBack", unfollowed := true, recurses := true, apart := false }
def CallBackSaid : Prop := callBackRow.holds Try.pinned (OpenSpec.ofChange callBackSpec)

/-- ITS FALSE NEIGHBOUR: 'it returns false'. Refute it at one input. -/
def callBackWrong : ChangeSpec := { name := "callBack", fn := fun _ => fun
  | [d1, d2, d3, d4] => { results := [.lit (.bool false)], args := [d1, d2, d3, d4] }
  | _ => none }
def CallBackWrongFalsely : Prop := callBackRow.holds Try.pinned (OpenSpec.ofChange callBackWrong)

/-- 'doorwardlaw18.MeanEvals': WHATEVER THE INPUT: true; the input reads as it did. -/
def meanEvalsSpec : ChangeSpec := { name := "meanEvals", fn := fun _ => fun
  | [d1, d2, d3] => { results := [.lit (.bool true)], args := [d1, d2, d3] }
  | _ => none }
def meanEvalsRow : OpenClaim := { program := "ytoeklekjhaigoaa", sum := "faaab7f591995469e30671968d73d7a7152aaef2ec0370df37b1dfc11bf81a93", func := "doorward/doorwardlaw18.MeanEvals", spec := "meanEvals", unfollowed := true, recurses := true, loops := true, apart := false }
def MeanEvalsSaid : Prop := meanEvalsRow.holds Try.pinned (OpenSpec.ofChange meanEvalsSpec)

/-- ITS FALSE NEIGHBOUR: 'it returns false'. Refute it at one input. -/
def meanEvalsWrong : ChangeSpec := { name := "meanEvals", fn := fun _ => fun
  | [d1, d2, d3] => { results := [.lit (.bool false)], args := [d1, d2, d3] }
  | _ => none }
def MeanEvalsWrongFalsely : Prop := meanEvalsRow.holds Try.pinned (OpenSpec.ofChange meanEvalsWrong)

/-- 'doorwardlaw19.WordMakes': WHATEVER THE INPUT: true; the input reads as it did. -/
def wordMakesSpec : ChangeSpec := { name := "wordMakes", fn := fun _ => fun
  | [d1, d2, d3, d4] => { results := [.lit (.bool true)], args := [d1, d2, d3, d4] }
  | _ => none }
def wordMakesRow : OpenClaim := { program := "ytoeklekjhaigoaa", sum := "faaab7f591995469e30671968d73d7a7152aaef2ec0370df37b1dfc11bf81a93", func := "doorward/doorwardlaw19.WordMakes", spec := "wordMakes", unfollowed := true, recurses := true, loops := true, apart := false }
def WordMakesSaid : Prop := wordMakesRow.holds Try.pinned (OpenSpec.ofChange wordMakesSpec)

/-- ITS FALSE NEIGHBOUR: 'it returns false'. Refute it at one input. -/
def wordMakesWrong : ChangeSpec := { name := "wordMakes", fn := fun _ => fun
  | [d1, d2, d3, d4] => { results := [.lit (.bool false)], args := [d1, d2, d3, d4] }
  | _ => none }
def WordMakesWrongFalsely : Prop := wordMakesRow.holds Try.pinned (OpenSpec.ofChange wordMakesWrong)

/-- 'doorwardlaw19.WordMeans': WHATEVER THE INPUT: true; the input reads as it did. -/
def wordMeansSpec : ChangeSpec := { name := "wordMeans", fn := fun _ => fun
  | [d1, d2, d3] => { results := [.lit (.bool true)], args := [d1, d2, d3] }
  | _ => none }
def wordMeansRow : OpenClaim := { program := "ytoeklekjhaigoaa", sum := "faaab7f591995469e30671968d73d7a7152aaef2ec0370df37b1dfc11bf81a93", func := "doorward/doorwardlaw19.WordMeans", spec := "wordMeans", unfollowed := true, recurses := true, loops := true, apart := false }
def WordMeansSaid : Prop := wordMeansRow.holds Try.pinned (OpenSpec.ofChange wordMeansSpec)

/-- ITS FALSE NEIGHBOUR: 'it returns false'. Refute it at one input. -/
def wordMeansWrong : ChangeSpec := { name := "wordMeans", fn := fun _ => fun
  | [d1, d2, d3] => { results := [.lit (.bool false)], args := [d1, d2, d3] }
  | _ => none }
def WordMeansWrongFalsely : Prop := wordMeansRow.holds Try.pinned (OpenSpec.ofChange wordMeansWrong)

/-- 'doorwardlaw19.WordAnswers': WHATEVER THE INPUT: true; the input reads as it did. -/
def wordAnswersSpec : ChangeSpec := { name := "wordAnswers", fn := fun _ => fun
  | [d1, d2, d3, d4] => { results := [.lit (.bool true)], args := [d1, d2, d3, d4] }
  | _ => none }
def wordAnswersRow : OpenClaim := { program := "ytoeklekjhaigoaa", sum := "faaab7f591995469e30671968d73d7a7152aaef2ec0370df37b1dfc11bf81a93", func := "doorward/doorwardlaw19.WordAnswers", spec := "wordAnswers", unfollowed := true, recurses := true, loops := true, apart := false }
def WordAnswersSaid : Prop := wordAnswersRow.holds Try.pinned (OpenSpec.ofChange wordAnswersSpec)

/-- ITS FALSE NEIGHBOUR: 'it returns false'. Refute it at one input. -/
def wordAnswersWrong : ChangeSpec := { name := "wordAnswers", fn := fun _ => fun
  | [d1, d2, d3, d4] => { results := [.lit (.bool false)], args := [d1, d2, d3, d4] }
  | _ => none }
def WordAnswersWrongFalsely : Prop := wordAnswersRow.holds Try.pinned (OpenSpec.ofChange wordAnswersWrong)

/-- 'doorwardlaw16.TypesConds': WHATEVER THE INPUT: true; the input reads as it did. -/
def typesCondsSpec : ChangeSpec := { name := "typesConds", fn := fun _ => fun
  | [d] => { results := [.lit (.bool true)], args := [d] }
  | _ => none }
def typesCondsRow : OpenClaim := { program := "ytoeklekjhaigoaa", sum := "faaab7f591995469e30671968d73d7a7152aaef2ec0370df37b1dfc11bf81a93", func := "doorward/doorwardlaw16.TypesConds", spec := "typesConds", unfollowed := true, recurses := true, loops := true, apart := false }
def TypesCondsSaid : Prop := typesCondsRow.holds Try.pinned (OpenSpec.ofChange typesCondsSpec)

/-- ITS FALSE NEIGHBOUR: 'it returns false'. Refute it at one input. -/
def typesCondsWrong : ChangeSpec := { name := "typesConds", fn := fun _ => fun
  | [d] => { results := [.lit (.bool false)], args := [d] }
  | _ => none }
def TypesCondsWrongFalsely : Prop := typesCondsRow.holds Try.pinned (OpenSpec.ofChange typesCondsWrong)

/-- 'doorwardlaw16.TypesChecks': WHATEVER THE INPUT: true; the input reads as it did. -/
def typesChecksSpec : ChangeSpec := { name := "typesChecks", fn := fun _ => fun
  | [d] => { results := [.lit (.bool true)], args := [d] }
  | _ => none }
def typesChecksRow : OpenClaim := { program := "ytoeklekjhaigoaa", sum := "faaab7f591995469e30671968d73d7a7152aaef2ec0370df37b1dfc11bf81a93", func := "doorward/doorwardlaw16.TypesChecks", spec := "typesChecks", unfollowed := true, recurses := true, loops := true, apart := false }
def TypesChecksSaid : Prop := typesChecksRow.holds Try.pinned (OpenSpec.ofChange typesChecksSpec)

/-- ITS FALSE NEIGHBOUR: 'it returns false'. Refute it at one input. -/
def typesChecksWrong : ChangeSpec := { name := "typesChecks", fn := fun _ => fun
  | [d] => { results := [.lit (.bool false)], args := [d] }
  | _ => none }
def TypesChecksWrongFalsely : Prop := typesChecksRow.holds Try.pinned (OpenSpec.ofChange typesChecksWrong)

/-- 'doorwardlaw16.TypesOrder': WHATEVER THE INPUT: true; the input reads as it did. -/
def typesOrderSpec : ChangeSpec := { name := "typesOrder", fn := fun _ => fun
  | [d1, d2] => { results := [.lit (.bool true)], args := [d1, d2] }
  | _ => none }
def typesOrderRow : OpenClaim := { program := "ytoeklekjhaigoaa", sum := "faaab7f591995469e30671968d73d7a7152aaef2ec0370df37b1dfc11bf81a93", func := "doorward/doorwardlaw16.TypesOrder", spec := "typesOrder", unfollowed := true, recurses := true, loops := true, apart := false }
def TypesOrderSaid : Prop := typesOrderRow.holds Try.pinned (OpenSpec.ofChange typesOrderSpec)

/-- ITS FALSE NEIGHBOUR: 'it returns false'. Refute it at one input. -/
def typesOrderWrong : ChangeSpec := { name := "typesOrder", fn := fun _ => fun
  | [d1, d2] => { results := [.lit (.bool false)], args := [d1, d2] }
  | _ => none }
def TypesOrderWrongFalsely : Prop := typesOrderRow.holds Try.pinned (OpenSpec.ofChange typesOrderWrong)

/-- 'doorwardlaw16.TypesNots': WHATEVER THE INPUT: true; the input reads as it did. -/
def typesNotsSpec : ChangeSpec := { name := "typesNots", fn := fun _ => fun
  | [d] => { results := [.lit (.bool true)], args := [d] }
  | _ => none }
def typesNotsRow : OpenClaim := { program := "ytoeklekjhaigoaa", sum := "faaab7f591995469e30671968d73d7a7152aaef2ec0370df37b1dfc11bf81a93", func := "doorward/doorwardlaw16.TypesNots", spec := "typesNots", unfollowed := true, recurses := true, loops := true, apart := false }
def TypesNotsSaid : Prop := typesNotsRow.holds Try.pinned (OpenSpec.ofChange typesNotsSpec)

/-- ITS FALSE NEIGHBOUR: 'it returns false'. Refute it at one input. -/
def typesNotsWrong : ChangeSpec := { name := "typesNots", fn := fun _ => fun
  | [d] => { results := [.lit (.bool false)], args := [d] }
  | _ => none }
def TypesNotsWrongFalsely : Prop := typesNotsRow.holds Try.pinned (OpenSpec.ofChange typesNotsWrong)

/-- 'doorwardlaw16.TypesBare': WHATEVER THE INPUT: true; the input reads as it did. -/
def typesBareSpec : ChangeSpec := { name := "typesBare", fn := fun _ => fun
  | [d] => { results := [.lit (.bool true)], args := [d] }
  | _ => none }
def typesBareRow : OpenClaim := { program := "ytoeklekjhaigoaa", sum := "faaab7f591995469e30671968d73d7a7152aaef2ec0370df37b1dfc11bf81a93", func := "doorward/doorwardlaw16.TypesBare", spec := "typesBare", unfollowed := true, recurses := true, loops := true, apart := false }
def TypesBareSaid : Prop := typesBareRow.holds Try.pinned (OpenSpec.ofChange typesBareSpec)

/-- ITS FALSE NEIGHBOUR: 'it returns false'. Refute it at one input. -/
def typesBareWrong : ChangeSpec := { name := "typesBare", fn := fun _ => fun
  | [d] => { results := [.lit (.bool false)], args := [d] }
  | _ => none }
def TypesBareWrongFalsely : Prop := typesBareRow.holds Try.pinned (OpenSpec.ofChange typesBareWrong)

/-- 'doorwardlaw20.TreeNumbers': WHATEVER THE INPUT: true; the input reads as it did. -/
def treeNumbersSpec : ChangeSpec := { name := "treeNumbers", fn := fun _ => fun
  | [d1, d2] => { results := [.lit (.bool true)], args := [d1, d2] }
  | _ => none }
def treeNumbersRow : OpenClaim := { program := "ytoeklekjhaigoaa", sum := "faaab7f591995469e30671968d73d7a7152aaef2ec0370df37b1dfc11bf81a93", func := "doorward/doorwardlaw20.TreeNumbers", spec := "treeNumbers", unfollowed := true, recurses := true, loops := true, apart := false }
def TreeNumbersSaid : Prop := treeNumbersRow.holds Try.pinned (OpenSpec.ofChange treeNumbersSpec)

/-- ITS FALSE NEIGHBOUR: 'it returns false'. Refute it at one input. -/
def treeNumbersWrong : ChangeSpec := { name := "treeNumbers", fn := fun _ => fun
  | [d1, d2] => { results := [.lit (.bool false)], args := [d1, d2] }
  | _ => none }
def TreeNumbersWrongFalsely : Prop := treeNumbersRow.holds Try.pinned (OpenSpec.ofChange treeNumbersWrong)

/-- 'doorwardlaw20.TreeMeans': WHATEVER THE INPUT: true; the input reads as it did. -/
def treeMeansSpec : ChangeSpec := { name := "treeMeans", fn := fun _ => fun
  | [d1, d2] => { results := [.lit (.bool true)], args := [d1, d2] }
  | _ => none }
def treeMeansRow : OpenClaim := { program := "ytoeklekjhaigoaa", sum := "faaab7f591995469e30671968d73d7a7152aaef2ec0370df37b1dfc11bf81a93", func := "doorward/doorwardlaw20.TreeMeans", spec := "treeMeans", unfollowed := true, recurses := true, loops := true, apart := false }
def TreeMeansSaid : Prop := treeMeansRow.holds Try.pinned (OpenSpec.ofChange treeMeansSpec)

/-- ITS FALSE NEIGHBOUR: 'it returns false'. Refute it at one input. -/
def treeMeansWrong : ChangeSpec := { name := "treeMeans", fn := fun _ => fun
  | [d1, d2] => { results := [.lit (.bool false)], args := [d1, d2] }
  | _ => none }
def TreeMeansWrongFalsely : Prop := treeMeansRow.holds Try.pinned (OpenSpec.ofChange treeMeansWrong)

/-- 'doorwardlaw20.TreeBare': WHATEVER THE INPUT: true; the input reads as it did. -/
def treeBareSpec : ChangeSpec := { name := "treeBare", fn := fun _ => fun
  | [d1, d2] => { results := [.lit (.bool true)], args := [d1, d2] }
  | _ => none }
def treeBareRow : OpenClaim := { program := "ytoeklekjhaigoaa", sum := "faaab7f591995469e30671968d73d7a7152aaef2ec0370df37b1dfc11bf81a93", func := "doorward/doorwardlaw20.TreeBare", spec := "treeBare", unfollowed := true, recurses := true, loops := true, apart := false }
def TreeBareSaid : Prop := treeBareRow.holds Try.pinned (OpenSpec.ofChange treeBareSpec)

/-- ITS FALSE NEIGHBOUR: 'it returns false'. Refute it at one input. -/
def treeBareWrong : ChangeSpec := { name := "treeBare", fn := fun _ => fun
  | [d1, d2] => { results := [.lit (.bool false)], args := [d1, d2] }
  | _ => none }
def TreeBareWrongFalsely : Prop := treeBareRow.holds Try.pinned (OpenSpec.ofChange treeBareWrong)

/-- 'doorwardlaw20.TreeOrder': WHATEVER THE INPUT: true; the input reads as it did. -/
def treeOrderSpec : ChangeSpec := { name := "treeOrder", fn := fun _ => fun
  | [d1, d2, d3] => { results := [.lit (.bool true)], args := [d1, d2, d3] }
  | _ => none }
def treeOrderRow : OpenClaim := { program := "ytoeklekjhaigoaa", sum := "faaab7f591995469e30671968d73d7a7152aaef2ec0370df37b1dfc11bf81a93", func := "doorward/doorwardlaw20.TreeOrder", spec := "treeOrder", unfollowed := true, recurses := true, loops := true, apart := false }
def TreeOrderSaid : Prop := treeOrderRow.holds Try.pinned (OpenSpec.ofChange treeOrderSpec)

/-- ITS FALSE NEIGHBOUR: 'it returns false'. Refute it at one input. -/
def treeOrderWrong : ChangeSpec := { name := "treeOrder", fn := fun _ => fun
  | [d1, d2, d3] => { results := [.lit (.bool false)], args := [d1, d2, d3] }
  | _ => none }
def TreeOrderWrongFalsely : Prop := treeOrderRow.holds Try.pinned (OpenSpec.ofChange treeOrderWrong)

/-- 'doorwardlaw20.TreeOthers': WHATEVER THE INPUT: true; the input reads as it did. -/
def treeOthersSpec : ChangeSpec := { name := "treeOthers", fn := fun _ => fun
  | [d1, d2] => { results := [.lit (.bool true)], args := [d1, d2] }
  | _ => none }
def treeOthersRow : OpenClaim := { program := "ytoeklekjhaigoaa", sum := "faaab7f591995469e30671968d73d7a7152aaef2ec0370df37b1dfc11bf81a93", func := "doorward/doorwardlaw20.TreeOthers", spec := "treeOthers", unfollowed := true, recurses := true, loops := true, apart := false }
def TreeOthersSaid : Prop := treeOthersRow.holds Try.pinned (OpenSpec.ofChange treeOthersSpec)

/-- ITS FALSE NEIGHBOUR: 'it returns false'. Refute it at one input. -/
def treeOthersWrong : ChangeSpec := { name := "treeOthers", fn := fun _ => fun
  | [d1, d2] => { results := [.lit (.bool false)], args := [d1, d2] }
  | _ => none }
def TreeOthersWrongFalsely : Prop := treeOthersRow.holds Try.pinned (OpenSpec.ofChange treeOthersWrong)

/- THE SECOND FORM. 'bulk': how many values and letters a reading holds, each counted each time it is reached (what is shared counts as often as it is met; a slice's spare places count too). A statement '..UptoSaid' is the law's where the arguments, and the package variables that the reading takes, are together of bulk at most 1048576: NARROWER than '..Said'. Prove '..Said' where nothing that the law and all that it calls make is longer than what came in: it says more and counts as full. Else prove '..UptoSaid'. A law counts once. -/
mutual
def uptoBulk {H : Type} : DataW H → Nat
  | .lit (.string bytes) => bytes.length + 1
  | .lit _ => 1
  | .nil => 1
  | .ptr d => uptoBulk d + 1
  | .slice elems spare => uptoBulkAll elems + uptoBulkAll spare + 1
  | .agg parts => uptoBulkAll parts + 1
  | .iface _ d => uptoBulk d + 1
  | .map entries => uptoBulkEntries entries + 1
  | .held _ => 1
def uptoBulkAll {H : Type} : List (DataW H) → Nat
  | [] => 0
  | d :: r => uptoBulk d + uptoBulkAll r
def uptoBulkEntries {H : Type} : List (Lit × DataW H) → Nat
  | [] => 0
  | x :: r => uptoBulkEntry x + uptoBulkEntries r
def uptoBulkEntry {H : Type} : Lit × DataW H → Nat
  | (.string bytes, d) => bytes.length + uptoBulk d + 1
  | (_, d) => uptoBulk d + 1
 end
def uptoSmall : (H : Type) → List (DataW H) → Bool := fun _ ds => decide (uptoBulkAll ds ≤ 1048576)
def OpenSpec.upto (s : _root_.Go.ChangeSpec) : _root_.Go.OpenSpec := { _root_.Go.OpenSpec.ofChange s with cond := some uptoSmall }

/-- 'doorwardlaw13.CallApart', WHERE WHAT IT READS IS OF BULK AT MOST 1048576: true; the input reads as it did. -/
def callApartUptoRow : OpenClaim := { program := "ytoeklekjhaigoaa", sum := "faaab7f591995469e30671968d73d7a7152aaef2ec0370df37b1dfc11bf81a93", func := "doorward/doorwardlaw13.CallApart", spec := "callApart", apart := false, narrowed := true }
def CallApartUptoSaid : Prop := callApartUptoRow.holds Try.pinned (OpenSpec.upto callApartSpec)

/-- 'doorwardlaw13.CallActions', WHERE WHAT IT READS IS OF BULK AT MOST 1048576: true; the input reads as it did. -/
def callActionsUptoRow : OpenClaim := { program := "ytoeklekjhaigoaa", sum := "faaab7f591995469e30671968d73d7a7152aaef2ec0370df37b1dfc11bf81a93", func := "doorward/doorwardlaw13.CallActions", spec := "callActions", apart := false, narrowed := true }
def CallActionsUptoSaid : Prop := callActionsUptoRow.holds Try.pinned (OpenSpec.upto callActionsSpec)

/-- 'doorwardlaw19.WordWalks', WHERE WHAT IT READS IS OF BULK AT MOST 1048576: true; the input reads as it did. -/
def wordWalksUptoRow : OpenClaim := { program := "ytoeklekjhaigoaa", sum := "faaab7f591995469e30671968d73d7a7152aaef2ec0370df37b1dfc11bf81a93", func := "doorward/doorwardlaw19.WordWalks", spec := "wordWalks", unfollowed := true, recurses := true, apart := false, narrowed := true }
def WordWalksUptoSaid : Prop := wordWalksUptoRow.holds Try.pinned (OpenSpec.upto wordWalksSpec)

/-- 'doorwardlaw19.WordJoins', WHERE WHAT IT READS IS OF BULK AT MOST 1048576: true; the input reads as it did. -/
def wordJoinsUptoRow : OpenClaim := { program := "ytoeklekjhaigoaa", sum := "faaab7f591995469e30671968d73d7a7152aaef2ec0370df37b1dfc11bf81a93", func := "doorward/doorwardlaw19.WordJoins", spec := "wordJoins", unfollowed := true, recurses := true, apart := false, narrowed := true }
def WordJoinsUptoSaid : Prop := wordJoinsUptoRow.holds Try.pinned (OpenSpec.upto wordJoinsSpec)

/-- 'doorwardlaw13.CallNames', WHERE WHAT IT READS IS OF BULK AT MOST 1048576: true; the input reads as it did. -/
def callNamesUptoRow : OpenClaim := { program := "ytoeklekjhaigoaa", sum := "faaab7f591995469e30671968d73d7a7152aaef2ec0370df37b1dfc11bf81a93", func := "doorward/doorwardlaw13.CallNames", spec := "callNames", apart := false, narrowed := true }
def CallNamesUptoSaid : Prop := callNamesUptoRow.holds Try.pinned (OpenSpec.upto callNamesSpec)

/-- 'doorwardlaw18.MeanHolds', WHERE WHAT IT READS IS OF BULK AT MOST 1048576: true; the input reads as it did. -/
def meanHoldsUptoRow : OpenClaim := { program := "ytoeklekjhaigoaa", sum := "faaab7f591995469e30671968d73d7a7152aaef2ec0370df37b1dfc11bf81a93", func := "doorward/doorwardlaw18.MeanHolds", spec := "meanHolds", unfollowed := true, recurses := true, loops := true, apart := false, narrowed := true }
def MeanHoldsUptoSaid : Prop := meanHoldsUptoRow.holds Try.pinned (OpenSpec.upto meanHoldsSpec)

/-- 'doorwardlaw18.MeanNots', WHERE WHAT IT READS IS OF BULK AT MOST 1048576: true; the input reads as it did. -/
def meanNotsUptoRow : OpenClaim := { program := "ytoeklekjhaigoaa", sum := "faaab7f591995469e30671968d73d7a7152aaef2ec0370df37b1dfc11bf81a93", func := "doorward/doorwardlaw18.MeanNots", spec := "meanNots", unfollowed := true, recurses := true, loops := true, apart := false, narrowed := true }
def MeanNotsUptoSaid : Prop := meanNotsUptoRow.holds Try.pinned (OpenSpec.upto meanNotsSpec)

/-- 'doorwardlaw18.MeanRules', WHERE WHAT IT READS IS OF BULK AT MOST 1048576: true; the input reads as it did. -/
def meanRulesUptoRow : OpenClaim := { program := "ytoeklekjhaigoaa", sum := "faaab7f591995469e30671968d73d7a7152aaef2ec0370df37b1dfc11bf81a93", func := "doorward/doorwardlaw18.MeanRules", spec := "meanRules", unfollowed := true, recurses := true, loops := true, apart := false, narrowed := true }
def MeanRulesUptoSaid : Prop := meanRulesUptoRow.holds Try.pinned (OpenSpec.upto meanRulesSpec)

/-- 'doorwardlaw18.MeanSigns', WHERE WHAT IT READS IS OF BULK AT MOST 1048576: true; the input reads as it did. -/
def meanSignsUptoRow : OpenClaim := { program := "ytoeklekjhaigoaa", sum := "faaab7f591995469e30671968d73d7a7152aaef2ec0370df37b1dfc11bf81a93", func := "doorward/doorwardlaw18.MeanSigns", spec := "meanSigns", unfollowed := true, recurses := true, apart := false, narrowed := true }
def MeanSignsUptoSaid : Prop := meanSignsUptoRow.holds Try.pinned (OpenSpec.upto meanSignsSpec)

/-- 'doorwardlaw18.MeanAll', WHERE WHAT IT READS IS OF BULK AT MOST 1048576: true; the input reads as it did. -/
def meanAllUptoRow : OpenClaim := { program := "ytoeklekjhaigoaa", sum := "faaab7f591995469e30671968d73d7a7152aaef2ec0370df37b1dfc11bf81a93", func := "doorward/doorwardlaw18.MeanAll", spec := "meanAll", unfollowed := true, recurses := true, loops := true, apart := false, narrowed := true }
def MeanAllUptoSaid : Prop := meanAllUptoRow.holds Try.pinned (OpenSpec.upto meanAllSpec)

/-- 'doorwardlaw13.CallWords', WHERE WHAT IT READS IS OF BULK AT MOST 1048576: true; the input reads as it did. -/
def callWordsUptoRow : OpenClaim := { program := "ytoeklekjhaigoaa", sum := "faaab7f591995469e30671968d73d7a7152aaef2ec0370df37b1dfc11bf81a93", func := "doorward/doorwardlaw13.CallWords", spec := "callWords", unfollowed := true, recurses := true, apart := false, narrowed := true }
def CallWordsUptoSaid : Prop := callWordsUptoRow.holds Try.pinned (OpenSpec.upto callWordsSpec)

/-- 'doorwardlaw13.CallRecords', WHERE WHAT IT READS IS OF BULK AT MOST 1048576: true; the input reads as it did. -/
def callRecordsUptoRow : OpenClaim := { program := "ytoeklekjhaigoaa", sum := "faaab7f591995469e30671968d73d7a7152aaef2ec0370df37b1dfc11bf81a93", func := "doorward/doorwardlaw13.CallRecords", spec := "callRecords", unfollowed := true, recurses := true, apart := false, narrowed := true }
def CallRecordsUptoSaid : Prop := callRecordsUptoRow.holds Try.pinned (OpenSpec.upto callRecordsSpec)

/-- 'doorwardlaw13.CallBack', WHERE WHAT IT READS IS OF BULK AT MOST 1048576: true; the input reads as it did. -/
def callBackUptoRow : OpenClaim := { program := "ytoeklekjhaigoaa", sum := "faaab7f591995469e30671968d73d7a7152aaef2ec0370df37b1dfc11bf81a93", func := "doorward/doorwardlaw13.CallBack", spec := "callBack", unfollowed := true, recurses := true, apart := false, narrowed := true }
def CallBackUptoSaid : Prop := callBackUptoRow.holds Try.pinned (OpenSpec.upto callBackSpec)

/-- 'doorwardlaw18.MeanEvals', WHERE WHAT IT READS IS OF BULK AT MOST 1048576: true; the input reads as it did. -/
def meanEvalsUptoRow : OpenClaim := { program := "ytoeklekjhaigoaa", sum := "faaab7f591995469e30671968d73d7a7152aaef2ec0370df37b1dfc11bf81a93", func := "doorward/doorwardlaw18.MeanEvals", spec := "meanEvals", unfollowed := true, recurses := true, loops := true, apart := false, narrowed := true }
def MeanEvalsUptoSaid : Prop := meanEvalsUptoRow.holds Try.pinned (OpenSpec.upto meanEvalsSpec)

/-- 'doorwardlaw19.WordMakes', WHERE WHAT IT READS IS OF BULK AT MOST 1048576: true; the input reads as it did. -/
def wordMakesUptoRow : OpenClaim := { program := "ytoeklekjhaigoaa", sum := "faaab7f591995469e30671968d73d7a7152aaef2ec0370df37b1dfc11bf81a93", func := "doorward/doorwardlaw19.WordMakes", spec := "wordMakes", unfollowed := true, recurses := true, loops := true, apart := false, narrowed := true }
def WordMakesUptoSaid : Prop := wordMakesUptoRow.holds Try.pinned (OpenSpec.upto wordMakesSpec)

/-- 'doorwardlaw19.WordMeans', WHERE WHAT IT READS IS OF BULK AT MOST 1048576: true; the input reads as it did. -/
def wordMeansUptoRow : OpenClaim := { program := "ytoeklekjhaigoaa", sum := "faaab7f591995469e30671968d73d7a7152aaef2ec0370df37b1dfc11bf81a93", func := "doorward/doorwardlaw19.WordMeans", spec := "wordMeans", unfollowed := true, recurses := true, loops := true, apart := false, narrowed := true }
def WordMeansUptoSaid : Prop := wordMeansUptoRow.holds Try.pinned (OpenSpec.upto wordMeansSpec)

/-- 'doorwardlaw19.WordAnswers', WHERE WHAT IT READS IS OF BULK AT MOST 1048576: true; the input reads as it did. -/
def wordAnswersUptoRow : OpenClaim := { program := "ytoeklekjhaigoaa", sum := "faaab7f591995469e30671968d73d7a7152aaef2ec0370df37b1dfc11bf81a93", func := "doorward/doorwardlaw19.WordAnswers", spec := "wordAnswers", unfollowed := true, recurses := true, loops := true, apart := false, narrowed := true }
def WordAnswersUptoSaid : Prop := wordAnswersUptoRow.holds Try.pinned (OpenSpec.upto wordAnswersSpec)

/-- 'doorwardlaw16.TypesConds', WHERE WHAT IT READS IS OF BULK AT MOST 1048576: true; the input reads as it did. -/
def typesCondsUptoRow : OpenClaim := { program := "ytoeklekjhaigoaa", sum := "faaab7f591995469e30671968d73d7a7152aaef2ec0370df37b1dfc11bf81a93", func := "doorward/doorwardlaw16.TypesConds", spec := "typesConds", unfollowed := true, recurses := true, loops := true, apart := false, narrowed := true }
def TypesCondsUptoSaid : Prop := typesCondsUptoRow.holds Try.pinned (OpenSpec.upto typesCondsSpec)

/-- 'doorwardlaw16.TypesChecks', WHERE WHAT IT READS IS OF BULK AT MOST 1048576: true; the input reads as it did. -/
def typesChecksUptoRow : OpenClaim := { program := "ytoeklekjhaigoaa", sum := "faaab7f591995469e30671968d73d7a7152aaef2ec0370df37b1dfc11bf81a93", func := "doorward/doorwardlaw16.TypesChecks", spec := "typesChecks", unfollowed := true, recurses := true, loops := true, apart := false, narrowed := true }
def TypesChecksUptoSaid : Prop := typesChecksUptoRow.holds Try.pinned (OpenSpec.upto typesChecksSpec)

/-- 'doorwardlaw16.TypesOrder', WHERE WHAT IT READS IS OF BULK AT MOST 1048576: true; the input reads as it did. -/
def typesOrderUptoRow : OpenClaim := { program := "ytoeklekjhaigoaa", sum := "faaab7f591995469e30671968d73d7a7152aaef2ec0370df37b1dfc11bf81a93", func := "doorward/doorwardlaw16.TypesOrder", spec := "typesOrder", unfollowed := true, recurses := true, loops := true, apart := false, narrowed := true }
def TypesOrderUptoSaid : Prop := typesOrderUptoRow.holds Try.pinned (OpenSpec.upto typesOrderSpec)

/-- 'doorwardlaw16.TypesNots', WHERE WHAT IT READS IS OF BULK AT MOST 1048576: true; the input reads as it did. -/
def typesNotsUptoRow : OpenClaim := { program := "ytoeklekjhaigoaa", sum := "faaab7f591995469e30671968d73d7a7152aaef2ec0370df37b1dfc11bf81a93", func := "doorward/doorwardlaw16.TypesNots", spec := "typesNots", unfollowed := true, recurses := true, loops := true, apart := false, narrowed := true }
def TypesNotsUptoSaid : Prop := typesNotsUptoRow.holds Try.pinned (OpenSpec.upto typesNotsSpec)

/-- 'doorwardlaw16.TypesBare', WHERE WHAT IT READS IS OF BULK AT MOST 1048576: true; the input reads as it did. -/
def typesBareUptoRow : OpenClaim := { program := "ytoeklekjhaigoaa", sum := "faaab7f591995469e30671968d73d7a7152aaef2ec0370df37b1dfc11bf81a93", func := "doorward/doorwardlaw16.TypesBare", spec := "typesBare", unfollowed := true, recurses := true, loops := true, apart := false, narrowed := true }
def TypesBareUptoSaid : Prop := typesBareUptoRow.holds Try.pinned (OpenSpec.upto typesBareSpec)

/-- 'doorwardlaw20.TreeNumbers', WHERE WHAT IT READS IS OF BULK AT MOST 1048576: true; the input reads as it did. -/
def treeNumbersUptoRow : OpenClaim := { program := "ytoeklekjhaigoaa", sum := "faaab7f591995469e30671968d73d7a7152aaef2ec0370df37b1dfc11bf81a93", func := "doorward/doorwardlaw20.TreeNumbers", spec := "treeNumbers", unfollowed := true, recurses := true, loops := true, apart := false, narrowed := true }
def TreeNumbersUptoSaid : Prop := treeNumbersUptoRow.holds Try.pinned (OpenSpec.upto treeNumbersSpec)

/-- 'doorwardlaw20.TreeMeans', WHERE WHAT IT READS IS OF BULK AT MOST 1048576: true; the input reads as it did. -/
def treeMeansUptoRow : OpenClaim := { program := "ytoeklekjhaigoaa", sum := "faaab7f591995469e30671968d73d7a7152aaef2ec0370df37b1dfc11bf81a93", func := "doorward/doorwardlaw20.TreeMeans", spec := "treeMeans", unfollowed := true, recurses := true, loops := true, apart := false, narrowed := true }
def TreeMeansUptoSaid : Prop := treeMeansUptoRow.holds Try.pinned (OpenSpec.upto treeMeansSpec)

/-- 'doorwardlaw20.TreeBare', WHERE WHAT IT READS IS OF BULK AT MOST 1048576: true; the input reads as it did. -/
def treeBareUptoRow : OpenClaim := { program := "ytoeklekjhaigoaa", sum := "faaab7f591995469e30671968d73d7a7152aaef2ec0370df37b1dfc11bf81a93", func := "doorward/doorwardlaw20.TreeBare", spec := "treeBare", unfollowed := true, recurses := true, loops := true, apart := false, narrowed := true }
def TreeBareUptoSaid : Prop := treeBareUptoRow.holds Try.pinned (OpenSpec.upto treeBareSpec)

/-- 'doorwardlaw20.TreeOrder', WHERE WHAT IT READS IS OF BULK AT MOST 1048576: true; the input reads as it did. -/
def treeOrderUptoRow : OpenClaim := { program := "ytoeklekjhaigoaa", sum := "faaab7f591995469e30671968d73d7a7152aaef2ec0370df37b1dfc11bf81a93", func := "doorward/doorwardlaw20.TreeOrder", spec := "treeOrder", unfollowed := true, recurses := true, loops := true, apart := false, narrowed := true }
def TreeOrderUptoSaid : Prop := treeOrderUptoRow.holds Try.pinned (OpenSpec.upto treeOrderSpec)

/-- 'doorwardlaw20.TreeOthers', WHERE WHAT IT READS IS OF BULK AT MOST 1048576: true; the input reads as it did. -/
def treeOthersUptoRow : OpenClaim := { program := "ytoeklekjhaigoaa", sum := "faaab7f591995469e30671968d73d7a7152aaef2ec0370df37b1dfc11bf81a93", func := "doorward/doorwardlaw20.TreeOthers", spec := "treeOthers", unfollowed := true, recurses := true, loops := true, apart := false, narrowed := true }
def TreeOthersUptoSaid : Prop := treeOthersUptoRow.holds Try.pinned (OpenSpec.upto treeOthersSpec)

end Rows
end Go.Proofs.Ytoeklekjhaigoaa
