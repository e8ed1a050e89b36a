/-
  No cell of these rows narrows 'for every input' (looked for: loops, veiled, ifaces, maps, wideKeys, modest, calm, conditions, laid).
  DERIVED. THE GIVEN ROWS OF THIS SEAT. 27 by the template 'for every input the law returns true; each argument reads behind the call as it read before'; 0 by the template 'total and deterministic' (their statements: YtefkhcijgiagdaaTotals.lean).
  GIVEN WITH THE SEED: the statements are not yours to turn. If you find one false, say at which input.
  Laid BY PROGRAM, IN A SANDBOX (cutbox-rows.mjs): the forced cells as the released guide's own fill.sh prints them over the translation 7220a760b8a49b1a… (all of the seat's roots in one cut). By AI agents, Wed Nov 11 2026. No macro, syntax, notation, axiom, sorry.
-/
import Derived.Test.YtefkhcijgiagdaaChecked
import GoSem.Claim
import GoSem.ClaimJoined
import GoSem.ClaimMapViews
import Derived.JoinedTies
import Derived.KernelRfl
namespace Go.Proofs.Ytefkhcijgiagdaa
/- THE CELL 'sum', in the pinned program and in every row, IS THE sha256 OF THE DUMP (.gsa) THAT YtefkhcijgiagdaaProg.lean LOADS. Nothing in Lean hashes anything: it is a label: what it is worth is what the hold of that sum in a sandbox is worth. -/
noncomputable def Try.pinned : Pinned := { name := "ytefkhcijgiagdaa", sum := "7220a760b8a49b1a3f3c6bd8bc3517a1df1dc09980328eafe8e50658bff8813b", checked := Try.checked }
namespace Rows
def none {H : Type} : Left H := { results := [], args := [] }

/-- 'doorwardlaw02.CrcThree': WHATEVER THE INPUT: true; the input reads as it did. -/
def crcThreeSpec : ChangeSpec := { name := "crcThree", fn := fun _ => fun
  | [d1, d2, d3] => { results := [.lit (.bool true)], args := [d1, d2, d3] }
  | _ => none }
def crcThreeRow : OpenClaim := { program := "ytefkhcijgiagdaa", sum := "7220a760b8a49b1a3f3c6bd8bc3517a1df1dc09980328eafe8e50658bff8813b", func := "doorward/doorwardlaw02.CrcThree", spec := "crcThree", unfollowed := true, recurses := true, apart := false }
def CrcThreeSaid : Prop := crcThreeRow.holds Try.pinned (OpenSpec.ofChange crcThreeSpec)

/-- ITS FALSE NEIGHBOUR: 'it returns false'. Refute it at one input. -/
def crcThreeWrong : ChangeSpec := { name := "crcThree", fn := fun _ => fun
  | [d1, d2, d3] => { results := [.lit (.bool false)], args := [d1, d2, d3] }
  | _ => none }
def CrcThreeWrongFalsely : Prop := crcThreeRow.holds Try.pinned (OpenSpec.ofChange crcThreeWrong)

/-- 'doorwardlaw10.InsnOne': WHATEVER THE INPUT: true; the input reads as it did. -/
def insnOneSpec : ChangeSpec := { name := "insnOne", fn := fun _ => fun
  | [d1, d2] => { results := [.lit (.bool true)], args := [d1, d2] }
  | _ => none }
def insnOneRow : OpenClaim := { program := "ytefkhcijgiagdaa", sum := "7220a760b8a49b1a3f3c6bd8bc3517a1df1dc09980328eafe8e50658bff8813b", func := "doorward/doorwardlaw10.InsnOne", spec := "insnOne", apart := false }
def InsnOneSaid : Prop := insnOneRow.holds Try.pinned (OpenSpec.ofChange insnOneSpec)

/-- ITS FALSE NEIGHBOUR: 'it returns false'. Refute it at one input. -/
def insnOneWrong : ChangeSpec := { name := "insnOne", fn := fun _ => fun
  | [d1, d2] => { results := [.lit (.bool false)], args := [d1, d2] }
  | _ => none }
def InsnOneWrongFalsely : Prop := insnOneRow.holds Try.pinned (OpenSpec.ofChange insnOneWrong)

/-- 'doorwardlaw21.EmitJoins': WHATEVER THE INPUT: true; the input reads as it did. -/
def emitJoinsSpec : ChangeSpec := { name := "emitJoins", fn := fun _ => fun
  | [d1, d2] => { results := [.lit (.bool true)], args := [d1, d2] }
  | _ => none }
def emitJoinsRow : OpenClaim := { program := "ytefkhcijgiagdaa", sum := "7220a760b8a49b1a3f3c6bd8bc3517a1df1dc09980328eafe8e50658bff8813b", func := "doorward/doorwardlaw21.EmitJoins", spec := "emitJoins", unfollowed := true, recurses := true, apart := false }
def EmitJoinsSaid : Prop := emitJoinsRow.holds Try.pinned (OpenSpec.ofChange emitJoinsSpec)

/-- ITS FALSE NEIGHBOUR: 'it returns false'. Refute it at one input. -/
def emitJoinsWrong : ChangeSpec := { name := "emitJoins", fn := fun _ => fun
  | [d1, d2] => { results := [.lit (.bool false)], args := [d1, d2] }
  | _ => none }
def EmitJoinsWrongFalsely : Prop := emitJoinsRow.holds Try.pinned (OpenSpec.ofChange emitJoinsWrong)

/-- 'doorwardlaw21.EmitNames': WHATEVER THE INPUT: true; the input reads as it did. -/
def emitNamesSpec : ChangeSpec := { name := "emitNames", fn := fun _ => fun
  | [d1, d2] => { results := [.lit (.bool true)], args := [d1, d2] }
  | _ => none }
def emitNamesRow : OpenClaim := { program := "ytefkhcijgiagdaa", sum := "7220a760b8a49b1a3f3c6bd8bc3517a1df1dc09980328eafe8e50658bff8813b", func := "doorward/doorwardlaw21.EmitNames", spec := "emitNames", unfollowed := true, recurses := true, apart := false }
def EmitNamesSaid : Prop := emitNamesRow.holds Try.pinned (OpenSpec.ofChange emitNamesSpec)

/-- ITS FALSE NEIGHBOUR: 'it returns false'. Refute it at one input. -/
def emitNamesWrong : ChangeSpec := { name := "emitNames", fn := fun _ => fun
  | [d1, d2] => { results := [.lit (.bool false)], args := [d1, d2] }
  | _ => none }
def EmitNamesWrongFalsely : Prop := emitNamesRow.holds Try.pinned (OpenSpec.ofChange emitNamesWrong)

/-- 'doorwardlaw02.CrcSums': WHATEVER THE INPUT: true; the input reads as it did. -/
def crcSumsSpec : ChangeSpec := { name := "crcSums", fn := fun _ => fun
  | [d1, d2] => { results := [.lit (.bool true)], args := [d1, d2] }
  | _ => none }
def crcSumsRow : OpenClaim := { program := "ytefkhcijgiagdaa", sum := "7220a760b8a49b1a3f3c6bd8bc3517a1df1dc09980328eafe8e50658bff8813b", func := "doorward/doorwardlaw02.CrcSums", spec := "crcSums", unfollowed := true, recurses := true, apart := false }
def CrcSumsSaid : Prop := crcSumsRow.holds Try.pinned (OpenSpec.ofChange crcSumsSpec)

/-- ITS FALSE NEIGHBOUR: 'it returns false'. Refute it at one input. -/
def crcSumsWrong : ChangeSpec := { name := "crcSums", fn := fun _ => fun
  | [d1, d2] => { results := [.lit (.bool false)], args := [d1, d2] }
  | _ => none }
def CrcSumsWrongFalsely : Prop := crcSumsRow.holds Try.pinned (OpenSpec.ofChange crcSumsWrong)

/-- 'doorwardlaw02.CrcTurned': WHATEVER THE INPUT: true; the input reads as it did. -/
def crcTurnedSpec : ChangeSpec := { name := "crcTurned", fn := fun _ => fun
  | [d1, d2, d3] => { results := [.lit (.bool true)], args := [d1, d2, d3] }
  | _ => none }
def crcTurnedRow : OpenClaim := { program := "ytefkhcijgiagdaa", sum := "7220a760b8a49b1a3f3c6bd8bc3517a1df1dc09980328eafe8e50658bff8813b", func := "doorward/doorwardlaw02.CrcTurned", spec := "crcTurned", unfollowed := true, recurses := true, apart := false }
def CrcTurnedSaid : Prop := crcTurnedRow.holds Try.pinned (OpenSpec.ofChange crcTurnedSpec)

/-- ITS FALSE NEIGHBOUR: 'it returns false'. Refute it at one input. -/
def crcTurnedWrong : ChangeSpec := { name := "crcTurned", fn := fun _ => fun
  | [d1, d2, d3] => { results := [.lit (.bool false)], args := [d1, d2, d3] }
  | _ => none }
def CrcTurnedWrongFalsely : Prop := crcTurnedRow.holds Try.pinned (OpenSpec.ofChange crcTurnedWrong)

/-- 'doorwardlaw02.CrcTwice': WHATEVER THE INPUT: true; the input reads as it did. -/
def crcTwiceSpec : ChangeSpec := { name := "crcTwice", fn := fun _ => fun
  | [d1, d2, d3] => { results := [.lit (.bool true)], args := [d1, d2, d3] }
  | _ => none }
def crcTwiceRow : OpenClaim := { program := "ytefkhcijgiagdaa", sum := "7220a760b8a49b1a3f3c6bd8bc3517a1df1dc09980328eafe8e50658bff8813b", func := "doorward/doorwardlaw02.CrcTwice", spec := "crcTwice", unfollowed := true, recurses := true, apart := false }
def CrcTwiceSaid : Prop := crcTwiceRow.holds Try.pinned (OpenSpec.ofChange crcTwiceSpec)

/-- ITS FALSE NEIGHBOUR: 'it returns false'. Refute it at one input. -/
def crcTwiceWrong : ChangeSpec := { name := "crcTwice", fn := fun _ => fun
  | [d1, d2, d3] => { results := [.lit (.bool false)], args := [d1, d2, d3] }
  | _ => none }
def CrcTwiceWrongFalsely : Prop := crcTwiceRow.holds Try.pinned (OpenSpec.ofChange crcTwiceWrong)

/-- 'doorwardlaw10.InsnCodes': WHATEVER THE INPUT: true; the input reads as it did. -/
def insnCodesSpec : ChangeSpec := { name := "insnCodes", fn := fun _ => fun
  | [d1, d2, d3] => { results := [.lit (.bool true)], args := [d1, d2, d3] }
  | _ => none }
def insnCodesRow : OpenClaim := { program := "ytefkhcijgiagdaa", sum := "7220a760b8a49b1a3f3c6bd8bc3517a1df1dc09980328eafe8e50658bff8813b", func := "doorward/doorwardlaw10.InsnCodes", spec := "insnCodes", apart := false }
def InsnCodesSaid : Prop := insnCodesRow.holds Try.pinned (OpenSpec.ofChange insnCodesSpec)

/-- ITS FALSE NEIGHBOUR: 'it returns false'. Refute it at one input. -/
def insnCodesWrong : ChangeSpec := { name := "insnCodes", fn := fun _ => fun
  | [d1, d2, d3] => { results := [.lit (.bool false)], args := [d1, d2, d3] }
  | _ => none }
def InsnCodesWrongFalsely : Prop := insnCodesRow.holds Try.pinned (OpenSpec.ofChange insnCodesWrong)

/-- 'doorwardlaw21.EmitMakes': WHATEVER THE INPUT: true; the input reads as it did. -/
def emitMakesSpec : ChangeSpec := { name := "emitMakes", fn := fun _ => fun
  | [d] => { results := [.lit (.bool true)], args := [d] }
  | _ => none }
def emitMakesRow : OpenClaim := { program := "ytefkhcijgiagdaa", sum := "7220a760b8a49b1a3f3c6bd8bc3517a1df1dc09980328eafe8e50658bff8813b", func := "doorward/doorwardlaw21.EmitMakes", spec := "emitMakes", unfollowed := true, recurses := true, apart := false }
def EmitMakesSaid : Prop := emitMakesRow.holds Try.pinned (OpenSpec.ofChange emitMakesSpec)

/-- ITS FALSE NEIGHBOUR: 'it returns false'. Refute it at one input. -/
def emitMakesWrong : ChangeSpec := { name := "emitMakes", fn := fun _ => fun
  | [d] => { results := [.lit (.bool false)], args := [d] }
  | _ => none }
def EmitMakesWrongFalsely : Prop := emitMakesRow.holds Try.pinned (OpenSpec.ofChange emitMakesWrong)

/-- 'doorwardlaw21.EmitCodes': WHATEVER THE INPUT: true; the input reads as it did. -/
def emitCodesSpec : ChangeSpec := { name := "emitCodes", fn := fun _ => fun
  | [d] => { results := [.lit (.bool true)], args := [d] }
  | _ => none }
def emitCodesRow : OpenClaim := { program := "ytefkhcijgiagdaa", sum := "7220a760b8a49b1a3f3c6bd8bc3517a1df1dc09980328eafe8e50658bff8813b", func := "doorward/doorwardlaw21.EmitCodes", spec := "emitCodes", unfollowed := true, recurses := true, apart := false }
def EmitCodesSaid : Prop := emitCodesRow.holds Try.pinned (OpenSpec.ofChange emitCodesSpec)

/-- ITS FALSE NEIGHBOUR: 'it returns false'. Refute it at one input. -/
def emitCodesWrong : ChangeSpec := { name := "emitCodes", fn := fun _ => fun
  | [d] => { results := [.lit (.bool false)], args := [d] }
  | _ => none }
def EmitCodesWrongFalsely : Prop := emitCodesRow.holds Try.pinned (OpenSpec.ofChange emitCodesWrong)

/-- 'doorwardlaw12.CheckTells': WHATEVER THE INPUT: true; the input reads as it did. -/
def checkTellsSpec : ChangeSpec := { name := "checkTells", fn := fun _ => fun
  | [d] => { results := [.lit (.bool true)], args := [d] }
  | _ => none }
def checkTellsRow : OpenClaim := { program := "ytefkhcijgiagdaa", sum := "7220a760b8a49b1a3f3c6bd8bc3517a1df1dc09980328eafe8e50658bff8813b", func := "doorward/doorwardlaw12.CheckTells", spec := "checkTells", unfollowed := true, recurses := true, apart := false }
def CheckTellsSaid : Prop := checkTellsRow.holds Try.pinned (OpenSpec.ofChange checkTellsSpec)

/-- ITS FALSE NEIGHBOUR: 'it returns false'. Refute it at one input. -/
def checkTellsWrong : ChangeSpec := { name := "checkTells", fn := fun _ => fun
  | [d] => { results := [.lit (.bool false)], args := [d] }
  | _ => none }
def CheckTellsWrongFalsely : Prop := checkTellsRow.holds Try.pinned (OpenSpec.ofChange checkTellsWrong)

/-- 'doorwardlaw12.CheckParts': WHATEVER THE INPUT: true; the input reads as it did. -/
def checkPartsSpec : ChangeSpec := { name := "checkParts", fn := fun _ => fun
  | [d] => { results := [.lit (.bool true)], args := [d] }
  | _ => none }
def checkPartsRow : OpenClaim := { program := "ytefkhcijgiagdaa", sum := "7220a760b8a49b1a3f3c6bd8bc3517a1df1dc09980328eafe8e50658bff8813b", func := "doorward/doorwardlaw12.CheckParts", spec := "checkParts", unfollowed := true, recurses := true, apart := false }
def CheckPartsSaid : Prop := checkPartsRow.holds Try.pinned (OpenSpec.ofChange checkPartsSpec)

/-- ITS FALSE NEIGHBOUR: 'it returns false'. Refute it at one input. -/
def checkPartsWrong : ChangeSpec := { name := "checkParts", fn := fun _ => fun
  | [d] => { results := [.lit (.bool false)], args := [d] }
  | _ => none }
def CheckPartsWrongFalsely : Prop := checkPartsRow.holds Try.pinned (OpenSpec.ofChange checkPartsWrong)

/-- 'doorwardlaw12.CheckStores': WHATEVER THE INPUT: true; the input reads as it did. -/
def checkStoresSpec : ChangeSpec := { name := "checkStores", fn := fun _ => fun
  | [d] => { results := [.lit (.bool true)], args := [d] }
  | _ => none }
def checkStoresRow : OpenClaim := { program := "ytefkhcijgiagdaa", sum := "7220a760b8a49b1a3f3c6bd8bc3517a1df1dc09980328eafe8e50658bff8813b", func := "doorward/doorwardlaw12.CheckStores", spec := "checkStores", unfollowed := true, recurses := true, apart := false }
def CheckStoresSaid : Prop := checkStoresRow.holds Try.pinned (OpenSpec.ofChange checkStoresSpec)

/-- ITS FALSE NEIGHBOUR: 'it returns false'. Refute it at one input. -/
def checkStoresWrong : ChangeSpec := { name := "checkStores", fn := fun _ => fun
  | [d] => { results := [.lit (.bool false)], args := [d] }
  | _ => none }
def CheckStoresWrongFalsely : Prop := checkStoresRow.holds Try.pinned (OpenSpec.ofChange checkStoresWrong)

/-- 'doorwardlaw10.InsnAll': WHATEVER THE INPUT: true; the input reads as it did. -/
def insnAllSpec : ChangeSpec := { name := "insnAll", fn := fun _ => fun
  | [d1, d2] => { results := [.lit (.bool true)], args := [d1, d2] }
  | _ => none }
def insnAllRow : OpenClaim := { program := "ytefkhcijgiagdaa", sum := "7220a760b8a49b1a3f3c6bd8bc3517a1df1dc09980328eafe8e50658bff8813b", func := "doorward/doorwardlaw10.InsnAll", spec := "insnAll", inPlace := ["internal/abi.NoEscape"], apart := false }
def InsnAllSaid : Prop := insnAllRow.holds Try.pinned (OpenSpec.ofChange insnAllSpec)

/-- ITS FALSE NEIGHBOUR: 'it returns false'. Refute it at one input. -/
def insnAllWrong : ChangeSpec := { name := "insnAll", fn := fun _ => fun
  | [d1, d2] => { results := [.lit (.bool false)], args := [d1, d2] }
  | _ => none }
def InsnAllWrongFalsely : Prop := insnAllRow.holds Try.pinned (OpenSpec.ofChange insnAllWrong)

/-- 'doorwardlaw10.InsnBack': WHATEVER THE INPUT: true; the input reads as it did. -/
def insnBackSpec : ChangeSpec := { name := "insnBack", fn := fun _ => fun
  | [d1, d2] => { results := [.lit (.bool true)], args := [d1, d2] }
  | _ => none }
def insnBackRow : OpenClaim := { program := "ytefkhcijgiagdaa", sum := "7220a760b8a49b1a3f3c6bd8bc3517a1df1dc09980328eafe8e50658bff8813b", func := "doorward/doorwardlaw10.InsnBack", spec := "insnBack", inPlace := ["internal/abi.NoEscape"], apart := false }
def InsnBackSaid : Prop := insnBackRow.holds Try.pinned (OpenSpec.ofChange insnBackSpec)

/-- ITS FALSE NEIGHBOUR: 'it returns false'. Refute it at one input. -/
def insnBackWrong : ChangeSpec := { name := "insnBack", fn := fun _ => fun
  | [d1, d2] => { results := [.lit (.bool false)], args := [d1, d2] }
  | _ => none }
def InsnBackWrongFalsely : Prop := insnBackRow.holds Try.pinned (OpenSpec.ofChange insnBackWrong)

/-- 'doorwardlaw10.InsnJoins': WHATEVER THE INPUT: true; the input reads as it did. -/
def insnJoinsSpec : ChangeSpec := { name := "insnJoins", fn := fun _ => fun
  | [d1, d2] => { results := [.lit (.bool true)], args := [d1, d2] }
  | _ => none }
def insnJoinsRow : OpenClaim := { program := "ytefkhcijgiagdaa", sum := "7220a760b8a49b1a3f3c6bd8bc3517a1df1dc09980328eafe8e50658bff8813b", func := "doorward/doorwardlaw10.InsnJoins", spec := "insnJoins", inPlace := ["internal/abi.NoEscape"], apart := false }
def InsnJoinsSaid : Prop := insnJoinsRow.holds Try.pinned (OpenSpec.ofChange insnJoinsSpec)

/-- ITS FALSE NEIGHBOUR: 'it returns false'. Refute it at one input. -/
def insnJoinsWrong : ChangeSpec := { name := "insnJoins", fn := fun _ => fun
  | [d1, d2] => { results := [.lit (.bool false)], args := [d1, d2] }
  | _ => none }
def InsnJoinsWrongFalsely : Prop := insnJoinsRow.holds Try.pinned (OpenSpec.ofChange insnJoinsWrong)

/-- 'doorwardlaw08.EntryFinds': WHATEVER THE INPUT: true; the input reads as it did. -/
def entryFindsSpec : ChangeSpec := { name := "entryFinds", fn := fun _ => fun
  | [d1, d2, d3, d4] => { results := [.lit (.bool true)], args := [d1, d2, d3, d4] }
  | _ => none }
def entryFindsRow : OpenClaim := { program := "ytefkhcijgiagdaa", sum := "7220a760b8a49b1a3f3c6bd8bc3517a1df1dc09980328eafe8e50658bff8813b", func := "doorward/doorwardlaw08.EntryFinds", spec := "entryFinds", inPlace := ["internal/abi.NoEscape", "internal/bytealg.abigen_runtime_cmpstring"], unfollowed := true, recurses := true, apart := false }
def EntryFindsSaid : Prop := entryFindsRow.holds Try.pinned (OpenSpec.ofChange entryFindsSpec)

/-- ITS FALSE NEIGHBOUR: 'it returns false'. Refute it at one input. -/
def entryFindsWrong : ChangeSpec := { name := "entryFinds", fn := fun _ => fun
  | [d1, d2, d3, d4] => { results := [.lit (.bool false)], args := [d1, d2, d3, d4] }
  | _ => none }
def EntryFindsWrongFalsely : Prop := entryFindsRow.holds Try.pinned (OpenSpec.ofChange entryFindsWrong)

/-- 'doorwardlaw08.EntryParts': WHATEVER THE INPUT: true; the input reads as it did. -/
def entryPartsSpec : ChangeSpec := { name := "entryParts", fn := fun _ => fun
  | [d1, d2, d3] => { results := [.lit (.bool true)], args := [d1, d2, d3] }
  | _ => none }
def entryPartsRow : OpenClaim := { program := "ytefkhcijgiagdaa", sum := "7220a760b8a49b1a3f3c6bd8bc3517a1df1dc09980328eafe8e50658bff8813b", func := "doorward/doorwardlaw08.EntryParts", spec := "entryParts", inPlace := ["internal/abi.NoEscape", "internal/bytealg.abigen_runtime_cmpstring"], unfollowed := true, recurses := true, apart := false }
def EntryPartsSaid : Prop := entryPartsRow.holds Try.pinned (OpenSpec.ofChange entryPartsSpec)

/-- ITS FALSE NEIGHBOUR: 'it returns false'. Refute it at one input. -/
def entryPartsWrong : ChangeSpec := { name := "entryParts", fn := fun _ => fun
  | [d1, d2, d3] => { results := [.lit (.bool false)], args := [d1, d2, d3] }
  | _ => none }
def EntryPartsWrongFalsely : Prop := entryPartsRow.holds Try.pinned (OpenSpec.ofChange entryPartsWrong)

/-- 'doorwardlaw08.EntryPacks': WHATEVER THE INPUT: true; the input reads as it did. -/
def entryPacksSpec : ChangeSpec := { name := "entryPacks", fn := fun _ => fun
  | [d1, d2] => { results := [.lit (.bool true)], args := [d1, d2] }
  | _ => none }
def entryPacksRow : OpenClaim := { program := "ytefkhcijgiagdaa", sum := "7220a760b8a49b1a3f3c6bd8bc3517a1df1dc09980328eafe8e50658bff8813b", func := "doorward/doorwardlaw08.EntryPacks", spec := "entryPacks", inPlace := ["internal/abi.NoEscape"], unfollowed := true, recurses := true, apart := false }
def EntryPacksSaid : Prop := entryPacksRow.holds Try.pinned (OpenSpec.ofChange entryPacksSpec)

/-- ITS FALSE NEIGHBOUR: 'it returns false'. Refute it at one input. -/
def entryPacksWrong : ChangeSpec := { name := "entryPacks", fn := fun _ => fun
  | [d1, d2] => { results := [.lit (.bool false)], args := [d1, d2] }
  | _ => none }
def EntryPacksWrongFalsely : Prop := entryPacksRow.holds Try.pinned (OpenSpec.ofChange entryPacksWrong)

/-- 'doorwardlaw08.EntryBack': WHATEVER THE INPUT: true; the input reads as it did. -/
def entryBackSpec : ChangeSpec := { name := "entryBack", fn := fun _ => fun
  | [d1, d2] => { results := [.lit (.bool true)], args := [d1, d2] }
  | _ => none }
def entryBackRow : OpenClaim := { program := "ytefkhcijgiagdaa", sum := "7220a760b8a49b1a3f3c6bd8bc3517a1df1dc09980328eafe8e50658bff8813b", func := "doorward/doorwardlaw08.EntryBack", spec := "entryBack", inPlace := ["internal/abi.NoEscape"], unfollowed := true, recurses := true, apart := false }
def EntryBackSaid : Prop := entryBackRow.holds Try.pinned (OpenSpec.ofChange entryBackSpec)

/-- ITS FALSE NEIGHBOUR: 'it returns false'. Refute it at one input. -/
def entryBackWrong : ChangeSpec := { name := "entryBack", fn := fun _ => fun
  | [d1, d2] => { results := [.lit (.bool false)], args := [d1, d2] }
  | _ => none }
def EntryBackWrongFalsely : Prop := entryBackRow.holds Try.pinned (OpenSpec.ofChange entryBackWrong)

/-- 'doorwardlaw11.VmRuns': WHATEVER THE INPUT: true; the input reads as it did. -/
def vmRunsSpec : ChangeSpec := { name := "vmRuns", fn := fun _ => fun
  | [d1, d2, d3] => { results := [.lit (.bool true)], args := [d1, d2, d3] }
  | _ => none }
def vmRunsRow : OpenClaim := { program := "ytefkhcijgiagdaa", sum := "7220a760b8a49b1a3f3c6bd8bc3517a1df1dc09980328eafe8e50658bff8813b", func := "doorward/doorwardlaw11.VmRuns", spec := "vmRuns", unfollowed := true, recurses := true, apart := false }
def VmRunsSaid : Prop := vmRunsRow.holds Try.pinned (OpenSpec.ofChange vmRunsSpec)

/-- ITS FALSE NEIGHBOUR: 'it returns false'. Refute it at one input. -/
def vmRunsWrong : ChangeSpec := { name := "vmRuns", fn := fun _ => fun
  | [d1, d2, d3] => { results := [.lit (.bool false)], args := [d1, d2, d3] }
  | _ => none }
def VmRunsWrongFalsely : Prop := vmRunsRow.holds Try.pinned (OpenSpec.ofChange vmRunsWrong)

/-- 'doorwardlaw11.VmEnds': WHATEVER THE INPUT: true; the input reads as it did. -/
def vmEndsSpec : ChangeSpec := { name := "vmEnds", fn := fun _ => fun
  | [d1, d2, d3] => { results := [.lit (.bool true)], args := [d1, d2, d3] }
  | _ => none }
def vmEndsRow : OpenClaim := { program := "ytefkhcijgiagdaa", sum := "7220a760b8a49b1a3f3c6bd8bc3517a1df1dc09980328eafe8e50658bff8813b", func := "doorward/doorwardlaw11.VmEnds", spec := "vmEnds", unfollowed := true, recurses := true, apart := false }
def VmEndsSaid : Prop := vmEndsRow.holds Try.pinned (OpenSpec.ofChange vmEndsSpec)

/-- ITS FALSE NEIGHBOUR: 'it returns false'. Refute it at one input. -/
def vmEndsWrong : ChangeSpec := { name := "vmEnds", fn := fun _ => fun
  | [d1, d2, d3] => { results := [.lit (.bool false)], args := [d1, d2, d3] }
  | _ => none }
def VmEndsWrongFalsely : Prop := vmEndsRow.holds Try.pinned (OpenSpec.ofChange vmEndsWrong)

/-- 'doorwardlaw11.VmMoves': WHATEVER THE INPUT: true; the input reads as it did. -/
def vmMovesSpec : ChangeSpec := { name := "vmMoves", fn := fun _ => fun
  | [d1, d2, d3, d4] => { results := [.lit (.bool true)], args := [d1, d2, d3, d4] }
  | _ => none }
def vmMovesRow : OpenClaim := { program := "ytefkhcijgiagdaa", sum := "7220a760b8a49b1a3f3c6bd8bc3517a1df1dc09980328eafe8e50658bff8813b", func := "doorward/doorwardlaw11.VmMoves", spec := "vmMoves", unfollowed := true, recurses := true, apart := false }
def VmMovesSaid : Prop := vmMovesRow.holds Try.pinned (OpenSpec.ofChange vmMovesSpec)

/-- ITS FALSE NEIGHBOUR: 'it returns false'. Refute it at one input. -/
def vmMovesWrong : ChangeSpec := { name := "vmMoves", fn := fun _ => fun
  | [d1, d2, d3, d4] => { results := [.lit (.bool false)], args := [d1, d2, d3, d4] }
  | _ => none }
def VmMovesWrongFalsely : Prop := vmMovesRow.holds Try.pinned (OpenSpec.ofChange vmMovesWrong)

/-- 'doorwardlaw11.VmSums': WHATEVER THE INPUT: true; the input reads as it did. -/
def vmSumsSpec : ChangeSpec := { name := "vmSums", fn := fun _ => fun
  | [d1, d2, d3, d4] => { results := [.lit (.bool true)], args := [d1, d2, d3, d4] }
  | _ => none }
def vmSumsRow : OpenClaim := { program := "ytefkhcijgiagdaa", sum := "7220a760b8a49b1a3f3c6bd8bc3517a1df1dc09980328eafe8e50658bff8813b", func := "doorward/doorwardlaw11.VmSums", spec := "vmSums", unfollowed := true, recurses := true, apart := false }
def VmSumsSaid : Prop := vmSumsRow.holds Try.pinned (OpenSpec.ofChange vmSumsSpec)

/-- ITS FALSE NEIGHBOUR: 'it returns false'. Refute it at one input. -/
def vmSumsWrong : ChangeSpec := { name := "vmSums", fn := fun _ => fun
  | [d1, d2, d3, d4] => { results := [.lit (.bool false)], args := [d1, d2, d3, d4] }
  | _ => none }
def VmSumsWrongFalsely : Prop := vmSumsRow.holds Try.pinned (OpenSpec.ofChange vmSumsWrong)

/-- 'doorwardlaw11.VmPasses': WHATEVER THE INPUT: true; the input reads as it did. -/
def vmPassesSpec : ChangeSpec := { name := "vmPasses", fn := fun _ => fun
  | [d1, d2, d3, d4, d5] => { results := [.lit (.bool true)], args := [d1, d2, d3, d4, d5] }
  | _ => none }
def vmPassesRow : OpenClaim := { program := "ytefkhcijgiagdaa", sum := "7220a760b8a49b1a3f3c6bd8bc3517a1df1dc09980328eafe8e50658bff8813b", func := "doorward/doorwardlaw11.VmPasses", spec := "vmPasses", unfollowed := true, recurses := true, apart := false }
def VmPassesSaid : Prop := vmPassesRow.holds Try.pinned (OpenSpec.ofChange vmPassesSpec)

/-- ITS FALSE NEIGHBOUR: 'it returns false'. Refute it at one input. -/
def vmPassesWrong : ChangeSpec := { name := "vmPasses", fn := fun _ => fun
  | [d1, d2, d3, d4, d5] => { results := [.lit (.bool false)], args := [d1, d2, d3, d4, d5] }
  | _ => none }
def VmPassesWrongFalsely : Prop := vmPassesRow.holds Try.pinned (OpenSpec.ofChange vmPassesWrong)

/-- 'doorwardlaw12.CheckRuns': WHATEVER THE INPUT: true; the input reads as it did. -/
def checkRunsSpec : ChangeSpec := { name := "checkRuns", fn := fun _ => fun
  | [d1, d2] => { results := [.lit (.bool true)], args := [d1, d2] }
  | _ => none }
def checkRunsRow : OpenClaim := { program := "ytefkhcijgiagdaa", sum := "7220a760b8a49b1a3f3c6bd8bc3517a1df1dc09980328eafe8e50658bff8813b", func := "doorward/doorwardlaw12.CheckRuns", spec := "checkRuns", unfollowed := true, recurses := true, apart := false }
def CheckRunsSaid : Prop := checkRunsRow.holds Try.pinned (OpenSpec.ofChange checkRunsSpec)

/-- ITS FALSE NEIGHBOUR: 'it returns false'. Refute it at one input. -/
def checkRunsWrong : ChangeSpec := { name := "checkRuns", fn := fun _ => fun
  | [d1, d2] => { results := [.lit (.bool false)], args := [d1, d2] }
  | _ => none }
def CheckRunsWrongFalsely : Prop := checkRunsRow.holds Try.pinned (OpenSpec.ofChange checkRunsWrong)

/-- 'doorwardlaw21.EmitRuns': WHATEVER THE INPUT: true; the input reads as it did. -/
def emitRunsSpec : ChangeSpec := { name := "emitRuns", fn := fun _ => fun
  | [d1, d2] => { results := [.lit (.bool true)], args := [d1, d2] }
  | _ => none }
def emitRunsRow : OpenClaim := { program := "ytefkhcijgiagdaa", sum := "7220a760b8a49b1a3f3c6bd8bc3517a1df1dc09980328eafe8e50658bff8813b", func := "doorward/doorwardlaw21.EmitRuns", spec := "emitRuns", unfollowed := true, recurses := true, apart := false }
def EmitRunsSaid : Prop := emitRunsRow.holds Try.pinned (OpenSpec.ofChange emitRunsSpec)

/-- ITS FALSE NEIGHBOUR: 'it returns false'. Refute it at one input. -/
def emitRunsWrong : ChangeSpec := { name := "emitRuns", fn := fun _ => fun
  | [d1, d2] => { results := [.lit (.bool false)], args := [d1, d2] }
  | _ => none }
def EmitRunsWrongFalsely : Prop := emitRunsRow.holds Try.pinned (OpenSpec.ofChange emitRunsWrong)

/- THE SECOND FORM. 'bulk': how many values and letters a reading holds, each counted each time it is reached (what is shared counts as often as it is met; a slice's spare places count too). A statement '..UptoSaid' is the law's where the arguments, and the package variables that the reading takes, are together of bulk at most 1048576: NARROWER than '..Said'. Prove '..Said' where nothing that the law and all that it calls make is longer than what came in: it says more and counts as full. Else prove '..UptoSaid'. A law counts once. -/
mutual
def uptoBulk {H : Type} : DataW H → Nat
  | .lit (.string bytes) => bytes.length + 1
  | .lit _ => 1
  | .nil => 1
  | .ptr d => uptoBulk d + 1
  | .slice elems spare => uptoBulkAll elems + uptoBulkAll spare + 1
  | .agg parts => uptoBulkAll parts + 1
  | .iface _ d => uptoBulk d + 1
  | .map entries => uptoBulkEntries entries + 1
  | .held _ => 1
def uptoBulkAll {H : Type} : List (DataW H) → Nat
  | [] => 0
  | d :: r => uptoBulk d + uptoBulkAll r
def uptoBulkEntries {H : Type} : List (Lit × DataW H) → Nat
  | [] => 0
  | x :: r => uptoBulkEntry x + uptoBulkEntries r
def uptoBulkEntry {H : Type} : Lit × DataW H → Nat
  | (.string bytes, d) => bytes.length + uptoBulk d + 1
  | (_, d) => uptoBulk d + 1
 end
def uptoSmall : (H : Type) → List (DataW H) → Bool := fun _ ds => decide (uptoBulkAll ds ≤ 1048576)
def OpenSpec.upto (s : _root_.Go.ChangeSpec) : _root_.Go.OpenSpec := { _root_.Go.OpenSpec.ofChange s with cond := some uptoSmall }

/-- 'doorwardlaw02.CrcThree', WHERE WHAT IT READS IS OF BULK AT MOST 1048576: true; the input reads as it did. -/
def crcThreeUptoRow : OpenClaim := { program := "ytefkhcijgiagdaa", sum := "7220a760b8a49b1a3f3c6bd8bc3517a1df1dc09980328eafe8e50658bff8813b", func := "doorward/doorwardlaw02.CrcThree", spec := "crcThree", unfollowed := true, recurses := true, apart := false, narrowed := true }
def CrcThreeUptoSaid : Prop := crcThreeUptoRow.holds Try.pinned (OpenSpec.upto crcThreeSpec)

/-- 'doorwardlaw10.InsnOne', WHERE WHAT IT READS IS OF BULK AT MOST 1048576: true; the input reads as it did. -/
def insnOneUptoRow : OpenClaim := { program := "ytefkhcijgiagdaa", sum := "7220a760b8a49b1a3f3c6bd8bc3517a1df1dc09980328eafe8e50658bff8813b", func := "doorward/doorwardlaw10.InsnOne", spec := "insnOne", apart := false, narrowed := true }
def InsnOneUptoSaid : Prop := insnOneUptoRow.holds Try.pinned (OpenSpec.upto insnOneSpec)

/-- 'doorwardlaw21.EmitJoins', WHERE WHAT IT READS IS OF BULK AT MOST 1048576: true; the input reads as it did. -/
def emitJoinsUptoRow : OpenClaim := { program := "ytefkhcijgiagdaa", sum := "7220a760b8a49b1a3f3c6bd8bc3517a1df1dc09980328eafe8e50658bff8813b", func := "doorward/doorwardlaw21.EmitJoins", spec := "emitJoins", unfollowed := true, recurses := true, apart := false, narrowed := true }
def EmitJoinsUptoSaid : Prop := emitJoinsUptoRow.holds Try.pinned (OpenSpec.upto emitJoinsSpec)

/-- 'doorwardlaw21.EmitNames', WHERE WHAT IT READS IS OF BULK AT MOST 1048576: true; the input reads as it did. -/
def emitNamesUptoRow : OpenClaim := { program := "ytefkhcijgiagdaa", sum := "7220a760b8a49b1a3f3c6bd8bc3517a1df1dc09980328eafe8e50658bff8813b", func := "doorward/doorwardlaw21.EmitNames", spec := "emitNames", unfollowed := true, recurses := true, apart := false, narrowed := true }
def EmitNamesUptoSaid : Prop := emitNamesUptoRow.holds Try.pinned (OpenSpec.upto emitNamesSpec)

/-- 'doorwardlaw02.CrcSums', WHERE WHAT IT READS IS OF BULK AT MOST 1048576: true; the input reads as it did. -/
def crcSumsUptoRow : OpenClaim := { program := "ytefkhcijgiagdaa", sum := "7220a760b8a49b1a3f3c6bd8bc3517a1df1dc09980328eafe8e50658bff8813b", func := "doorward/doorwardlaw02.CrcSums", spec := "crcSums", unfollowed := true, recurses := true, apart := false, narrowed := true }
def CrcSumsUptoSaid : Prop := crcSumsUptoRow.holds Try.pinned (OpenSpec.upto crcSumsSpec)

/-- 'doorwardlaw02.CrcTurned', WHERE WHAT IT READS IS OF BULK AT MOST 1048576: true; the input reads as it did. -/
def crcTurnedUptoRow : OpenClaim := { program := "ytefkhcijgiagdaa", sum := "7220a760b8a49b1a3f3c6bd8bc3517a1df1dc09980328eafe8e50658bff8813b", func := "doorward/doorwardlaw02.CrcTurned", spec := "crcTurned", unfollowed := true, recurses := true, apart := false, narrowed := true }
def CrcTurnedUptoSaid : Prop := crcTurnedUptoRow.holds Try.pinned (OpenSpec.upto crcTurnedSpec)

/-- 'doorwardlaw02.CrcTwice', WHERE WHAT IT READS IS OF BULK AT MOST 1048576: true; the input reads as it did. -/
def crcTwiceUptoRow : OpenClaim := { program := "ytefkhcijgiagdaa", sum := "7220a760b8a49b1a3f3c6bd8bc3517a1df1dc09980328eafe8e50658bff8813b", func := "doorward/doorwardlaw02.CrcTwice", spec := "crcTwice", unfollowed := true, recurses := true, apart := false, narrowed := true }
def CrcTwiceUptoSaid : Prop := crcTwiceUptoRow.holds Try.pinned (OpenSpec.upto crcTwiceSpec)

/-- 'doorwardlaw10.InsnCodes', WHERE WHAT IT READS IS OF BULK AT MOST 1048576: true; the input reads as it did. -/
def insnCodesUptoRow : OpenClaim := { program := "ytefkhcijgiagdaa", sum := "7220a760b8a49b1a3f3c6bd8bc3517a1df1dc09980328eafe8e50658bff8813b", func := "doorward/doorwardlaw10.InsnCodes", spec := "insnCodes", apart := false, narrowed := true }
def InsnCodesUptoSaid : Prop := insnCodesUptoRow.holds Try.pinned (OpenSpec.upto insnCodesSpec)

/-- 'doorwardlaw21.EmitMakes', WHERE WHAT IT READS IS OF BULK AT MOST 1048576: true; the input reads as it did. -/
def emitMakesUptoRow : OpenClaim := { program := "ytefkhcijgiagdaa", sum := "7220a760b8a49b1a3f3c6bd8bc3517a1df1dc09980328eafe8e50658bff8813b", func := "doorward/doorwardlaw21.EmitMakes", spec := "emitMakes", unfollowed := true, recurses := true, apart := false, narrowed := true }
def EmitMakesUptoSaid : Prop := emitMakesUptoRow.holds Try.pinned (OpenSpec.upto emitMakesSpec)

/-- 'doorwardlaw21.EmitCodes', WHERE WHAT IT READS IS OF BULK AT MOST 1048576: true; the input reads as it did. -/
def emitCodesUptoRow : OpenClaim := { program := "ytefkhcijgiagdaa", sum := "7220a760b8a49b1a3f3c6bd8bc3517a1df1dc09980328eafe8e50658bff8813b", func := "doorward/doorwardlaw21.EmitCodes", spec := "emitCodes", unfollowed := true, recurses := true, apart := false, narrowed := true }
def EmitCodesUptoSaid : Prop := emitCodesUptoRow.holds Try.pinned (OpenSpec.upto emitCodesSpec)

/-- 'doorwardlaw12.CheckTells', WHERE WHAT IT READS IS OF BULK AT MOST 1048576: true; the input reads as it did. -/
def checkTellsUptoRow : OpenClaim := { program := "ytefkhcijgiagdaa", sum := "7220a760b8a49b1a3f3c6bd8bc3517a1df1dc09980328eafe8e50658bff8813b", func := "doorward/doorwardlaw12.CheckTells", spec := "checkTells", unfollowed := true, recurses := true, apart := false, narrowed := true }
def CheckTellsUptoSaid : Prop := checkTellsUptoRow.holds Try.pinned (OpenSpec.upto checkTellsSpec)

/-- 'doorwardlaw12.CheckParts', WHERE WHAT IT READS IS OF BULK AT MOST 1048576: true; the input reads as it did. -/
def checkPartsUptoRow : OpenClaim := { program := "ytefkhcijgiagdaa", sum := "7220a760b8a49b1a3f3c6bd8bc3517a1df1dc09980328eafe8e50658bff8813b", func := "doorward/doorwardlaw12.CheckParts", spec := "checkParts", unfollowed := true, recurses := true, apart := false, narrowed := true }
def CheckPartsUptoSaid : Prop := checkPartsUptoRow.holds Try.pinned (OpenSpec.upto checkPartsSpec)

/-- 'doorwardlaw12.CheckStores', WHERE WHAT IT READS IS OF BULK AT MOST 1048576: true; the input reads as it did. -/
def checkStoresUptoRow : OpenClaim := { program := "ytefkhcijgiagdaa", sum := "7220a760b8a49b1a3f3c6bd8bc3517a1df1dc09980328eafe8e50658bff8813b", func := "doorward/doorwardlaw12.CheckStores", spec := "checkStores", unfollowed := true, recurses := true, apart := false, narrowed := true }
def CheckStoresUptoSaid : Prop := checkStoresUptoRow.holds Try.pinned (OpenSpec.upto checkStoresSpec)

/-- 'doorwardlaw10.InsnAll', WHERE WHAT IT READS IS OF BULK AT MOST 1048576: true; the input reads as it did. -/
def insnAllUptoRow : OpenClaim := { program := "ytefkhcijgiagdaa", sum := "7220a760b8a49b1a3f3c6bd8bc3517a1df1dc09980328eafe8e50658bff8813b", func := "doorward/doorwardlaw10.InsnAll", spec := "insnAll", inPlace := ["internal/abi.NoEscape"], apart := false, narrowed := true }
def InsnAllUptoSaid : Prop := insnAllUptoRow.holds Try.pinned (OpenSpec.upto insnAllSpec)

/-- 'doorwardlaw10.InsnBack', WHERE WHAT IT READS IS OF BULK AT MOST 1048576: true; the input reads as it did. -/
def insnBackUptoRow : OpenClaim := { program := "ytefkhcijgiagdaa", sum := "7220a760b8a49b1a3f3c6bd8bc3517a1df1dc09980328eafe8e50658bff8813b", func := "doorward/doorwardlaw10.InsnBack", spec := "insnBack", inPlace := ["internal/abi.NoEscape"], apart := false, narrowed := true }
def InsnBackUptoSaid : Prop := insnBackUptoRow.holds Try.pinned (OpenSpec.upto insnBackSpec)

/-- 'doorwardlaw10.InsnJoins', WHERE WHAT IT READS IS OF BULK AT MOST 1048576: true; the input reads as it did. -/
def insnJoinsUptoRow : OpenClaim := { program := "ytefkhcijgiagdaa", sum := "7220a760b8a49b1a3f3c6bd8bc3517a1df1dc09980328eafe8e50658bff8813b", func := "doorward/doorwardlaw10.InsnJoins", spec := "insnJoins", inPlace := ["internal/abi.NoEscape"], apart := false, narrowed := true }
def InsnJoinsUptoSaid : Prop := insnJoinsUptoRow.holds Try.pinned (OpenSpec.upto insnJoinsSpec)

/-- 'doorwardlaw08.EntryFinds', WHERE WHAT IT READS IS OF BULK AT MOST 1048576: true; the input reads as it did. -/
def entryFindsUptoRow : OpenClaim := { program := "ytefkhcijgiagdaa", sum := "7220a760b8a49b1a3f3c6bd8bc3517a1df1dc09980328eafe8e50658bff8813b", func := "doorward/doorwardlaw08.EntryFinds", spec := "entryFinds", inPlace := ["internal/abi.NoEscape", "internal/bytealg.abigen_runtime_cmpstring"], unfollowed := true, recurses := true, apart := false, narrowed := true }
def EntryFindsUptoSaid : Prop := entryFindsUptoRow.holds Try.pinned (OpenSpec.upto entryFindsSpec)

/-- 'doorwardlaw08.EntryParts', WHERE WHAT IT READS IS OF BULK AT MOST 1048576: true; the input reads as it did. -/
def entryPartsUptoRow : OpenClaim := { program := "ytefkhcijgiagdaa", sum := "7220a760b8a49b1a3f3c6bd8bc3517a1df1dc09980328eafe8e50658bff8813b", func := "doorward/doorwardlaw08.EntryParts", spec := "entryParts", inPlace := ["internal/abi.NoEscape", "internal/bytealg.abigen_runtime_cmpstring"], unfollowed := true, recurses := true, apart := false, narrowed := true }
def EntryPartsUptoSaid : Prop := entryPartsUptoRow.holds Try.pinned (OpenSpec.upto entryPartsSpec)

/-- 'doorwardlaw08.EntryPacks', WHERE WHAT IT READS IS OF BULK AT MOST 1048576: true; the input reads as it did. -/
def entryPacksUptoRow : OpenClaim := { program := "ytefkhcijgiagdaa", sum := "7220a760b8a49b1a3f3c6bd8bc3517a1df1dc09980328eafe8e50658bff8813b", func := "doorward/doorwardlaw08.EntryPacks", spec := "entryPacks", inPlace := ["internal/abi.NoEscape"], unfollowed := true, recurses := true, apart := false, narrowed := true }
def EntryPacksUptoSaid : Prop := entryPacksUptoRow.holds Try.pinned (OpenSpec.upto entryPacksSpec)

/-- 'doorwardlaw08.EntryBack', WHERE WHAT IT READS IS OF BULK AT MOST 1048576: true; the input reads as it did. -/
def entryBackUptoRow : OpenClaim := { program := "ytefkhcijgiagdaa", sum := "7220a760b8a49b1a3f3c6bd8bc3517a1df1dc09980328eafe8e50658bff8813b", func := "doorward/doorwardlaw08.EntryBack", spec := "entryBack", inPlace := ["internal/abi.NoEscape"], unfollowed := true, recurses := true, apart := false, narrowed := true }
def EntryBackUptoSaid : Prop := entryBackUptoRow.holds Try.pinned (OpenSpec.upto entryBackSpec)

/-- 'doorwardlaw11.VmRuns', WHERE WHAT IT READS IS OF BULK AT MOST 1048576: true; the input reads as it did. -/
def vmRunsUptoRow : OpenClaim := { program := "ytefkhcijgiagdaa", sum := "7220a760b8a49b1a3f3c6bd8bc3517a1df1dc09980328eafe8e50658bff8813b", func := "doorward/doorwardlaw11.VmRuns", spec := "vmRuns", unfollowed := true, recurses := true, apart := false, narrowed := true }
def VmRunsUptoSaid : Prop := vmRunsUptoRow.holds Try.pinned (OpenSpec.upto vmRunsSpec)

/-- 'doorwardlaw11.VmEnds', WHERE WHAT IT READS IS OF BULK AT MOST 1048576: true; the input reads as it did. -/
def vmEndsUptoRow : OpenClaim := { program := "ytefkhcijgiagdaa", sum := "7220a760b8a49b1a3f3c6bd8bc3517a1df1dc09980328eafe8e50658bff8813b", func := "doorward/doorwardlaw11.VmEnds", spec := "vmEnds", unfollowed := true, recurses := true, apart := false, narrowed := true }
def VmEndsUptoSaid : Prop := vmEndsUptoRow.holds Try.pinned (OpenSpec.upto vmEndsSpec)

/-- 'doorwardlaw11.VmMoves', WHERE WHAT IT READS IS OF BULK AT MOST 1048576: true; the input reads as it did. -/
def vmMovesUptoRow : OpenClaim := { program := "ytefkhcijgiagdaa", sum := "7220a760b8a49b1a3f3c6bd8bc3517a1df1dc09980328eafe8e50658bff8813b", func := "doorward/doorwardlaw11.VmMoves", spec := "vmMoves", unfollowed := true, recurses := true, apart := false, narrowed := true }
def VmMovesUptoSaid : Prop := vmMovesUptoRow.holds Try.pinned (OpenSpec.upto vmMovesSpec)

/-- 'doorwardlaw11.VmSums', WHERE WHAT IT READS IS OF BULK AT MOST 1048576: true; the input reads as it did. -/
def vmSumsUptoRow : OpenClaim := { program := "ytefkhcijgiagdaa", sum := "7220a760b8a49b1a3f3c6bd8bc3517a1df1dc09980328eafe8e50658bff8813b", func := "doorward/doorwardlaw11.VmSums", spec := "vmSums", unfollowed := true, recurses := true, apart := false, narrowed := true }
def VmSumsUptoSaid : Prop := vmSumsUptoRow.holds Try.pinned (OpenSpec.upto vmSumsSpec)

/-- 'doorwardlaw11.VmPasses', WHERE WHAT IT READS IS OF BULK AT MOST 1048576: true; the input reads as it did. -/
def vmPassesUptoRow : OpenClaim := { program := "ytefkhcijgiagdaa", sum := "7220a760b8a49b1a3f3c6bd8bc3517a1df1dc09980328eafe8e50658bff8813b", func := "doorward/doorwardlaw11.VmPasses", spec := "vmPasses", unfollowed := true, recurses := true, apart := false, narrowed := true }
def VmPassesUptoSaid : Prop := vmPassesUptoRow.holds Try.pinned (OpenSpec.upto vmPassesSpec)

/-- 'doorwardlaw12.CheckRuns', WHERE WHAT IT READS IS OF BULK AT MOST 1048576: true; the input reads as it did. -/
def checkRunsUptoRow : OpenClaim := { program := "ytefkhcijgiagdaa", sum := "7220a760b8a49b1a3f3c6bd8bc3517a1df1dc09980328eafe8e50658bff8813b", func := "doorward/doorwardlaw12.CheckRuns", spec := "checkRuns", unfollowed := true, recurses := true, apart := false, narrowed := true }
def CheckRunsUptoSaid : Prop := checkRunsUptoRow.holds Try.pinned (OpenSpec.upto checkRunsSpec)

/-- 'doorwardlaw21.EmitRuns', WHERE WHAT IT READS IS OF BULK AT MOST 1048576: true; the input reads as it did. -/
def emitRunsUptoRow : OpenClaim := { program := "ytefkhcijgiagdaa", sum := "7220a760b8a49b1a3f3c6bd8bc3517a1df1dc09980328eafe8e50658bff8813b", func := "doorward/doorwardlaw21.EmitRuns", spec := "emitRuns", unfollowed := true, recurses := true, apart := false, narrowed := true }
def EmitRunsUptoSaid : Prop := emitRunsUptoRow.holds Try.pinned (OpenSpec.upto emitRunsSpec)

end Rows
end Go.Proofs.Ytefkhcijgiagdaa
