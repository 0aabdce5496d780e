/-
  No cell of these rows narrows 'for every input' (looked for: loops, veiled, ifaces, maps, wideKeys, modest, calm, conditions, laid).
  DERIVED. THE GIVEN ROWS OF THIS SEAT. 18 by the template 'for every input the law returns true; each argument reads behind the call as it read before'; 0 by the template 'total and deterministic' (their statements: YtlpfajiigkjooaaTotals.lean).
  GIVEN WITH THE SEED: the statements are not yours to turn. If you find one false, say at which input.
  Laid BY PROGRAM, IN A SANDBOX (cutbox-rows.mjs): the forced cells as the released guide's own fill.sh prints them over the translation 6483c4b98332f67c… (all of the seat's roots in one cut). By AI agents, Wed Nov 11 2026. No macro, syntax, notation, axiom, sorry.
-/
import Derived.Test.YtlpfajiigkjooaaChecked
import GoSem.Claim
import GoSem.ClaimJoined
import GoSem.ClaimMapViews
import Derived.JoinedTies
import Derived.KernelRfl
namespace Go.Proofs.Ytlpfajiigkjooaa
/- THE CELL 'sum', in the pinned program and in every row, IS THE sha256 OF THE DUMP (.gsa) THAT YtlpfajiigkjooaaProg.lean LOADS. Nothing in Lean hashes anything: it is a label: what it is worth is what the hold of that sum in a sandbox is worth. -/
noncomputable def Try.pinned : Pinned := { name := "ytlpfajiigkjooaa", sum := "6483c4b98332f67c8649185f43f54587f48e8fc56bd18ac5eb91c769e0e89813", checked := Try.checked }
namespace Rows
def none {H : Type} : Left H := { results := [], args := [] }

/-- 'witanlaw03.ShaSums': WHATEVER THE INPUT: true; the input reads as it did. -/
def shaSumsSpec : ChangeSpec := { name := "shaSums", fn := fun _ => fun
  | [d] => { results := [.lit (.bool true)], args := [d] }
  | _ => none }
def shaSumsRow : OpenClaim := { program := "ytlpfajiigkjooaa", sum := "6483c4b98332f67c8649185f43f54587f48e8fc56bd18ac5eb91c769e0e89813", func := "witan/witanlaw03.ShaSums", spec := "shaSums", inPlace := ["internal/abi.NoEscape", "internal/bytealg.MakeNoZero"], apart := false }
def ShaSumsSaid : Prop := shaSumsRow.holds Try.pinned (OpenSpec.ofChange shaSumsSpec)

/-- ITS FALSE NEIGHBOUR: 'it returns false'. Refute it at one input. -/
def shaSumsWrong : ChangeSpec := { name := "shaSums", fn := fun _ => fun
  | [d] => { results := [.lit (.bool false)], args := [d] }
  | _ => none }
def ShaSumsWrongFalsely : Prop := shaSumsRow.holds Try.pinned (OpenSpec.ofChange shaSumsWrong)

/-- 'witanlaw03.ShaPads': WHATEVER THE INPUT: true; the input reads as it did. -/
def shaPadsSpec : ChangeSpec := { name := "shaPads", fn := fun _ => fun
  | [d] => { results := [.lit (.bool true)], args := [d] }
  | _ => none }
def shaPadsRow : OpenClaim := { program := "ytlpfajiigkjooaa", sum := "6483c4b98332f67c8649185f43f54587f48e8fc56bd18ac5eb91c769e0e89813", func := "witan/witanlaw03.ShaPads", spec := "shaPads", inPlace := ["internal/abi.NoEscape", "internal/bytealg.MakeNoZero"], apart := false }
def ShaPadsSaid : Prop := shaPadsRow.holds Try.pinned (OpenSpec.ofChange shaPadsSpec)

/-- ITS FALSE NEIGHBOUR: 'it returns false'. Refute it at one input. -/
def shaPadsWrong : ChangeSpec := { name := "shaPads", fn := fun _ => fun
  | [d] => { results := [.lit (.bool false)], args := [d] }
  | _ => none }
def ShaPadsWrongFalsely : Prop := shaPadsRow.holds Try.pinned (OpenSpec.ofChange shaPadsWrong)

/-- 'witanlaw03.ShaParts': WHATEVER THE INPUT: true; the input reads as it did. -/
def shaPartsSpec : ChangeSpec := { name := "shaParts", fn := fun _ => fun
  | [d1, d2] => { results := [.lit (.bool true)], args := [d1, d2] }
  | _ => none }
def shaPartsRow : OpenClaim := { program := "ytlpfajiigkjooaa", sum := "6483c4b98332f67c8649185f43f54587f48e8fc56bd18ac5eb91c769e0e89813", func := "witan/witanlaw03.ShaParts", spec := "shaParts", inPlace := ["internal/abi.NoEscape", "internal/bytealg.MakeNoZero"], apart := false }
def ShaPartsSaid : Prop := shaPartsRow.holds Try.pinned (OpenSpec.ofChange shaPartsSpec)

/-- ITS FALSE NEIGHBOUR: 'it returns false'. Refute it at one input. -/
def shaPartsWrong : ChangeSpec := { name := "shaParts", fn := fun _ => fun
  | [d1, d2] => { results := [.lit (.bool false)], args := [d1, d2] }
  | _ => none }
def ShaPartsWrongFalsely : Prop := shaPartsRow.holds Try.pinned (OpenSpec.ofChange shaPartsWrong)

/-- 'witanlaw03.ShaCuts': WHATEVER THE INPUT: true; the input reads as it did. -/
def shaCutsSpec : ChangeSpec := { name := "shaCuts", fn := fun _ => fun
  | [d1, d2, d3] => { results := [.lit (.bool true)], args := [d1, d2, d3] }
  | _ => none }
def shaCutsRow : OpenClaim := { program := "ytlpfajiigkjooaa", sum := "6483c4b98332f67c8649185f43f54587f48e8fc56bd18ac5eb91c769e0e89813", func := "witan/witanlaw03.ShaCuts", spec := "shaCuts", inPlace := ["internal/abi.NoEscape", "internal/bytealg.MakeNoZero"], apart := false }
def ShaCutsSaid : Prop := shaCutsRow.holds Try.pinned (OpenSpec.ofChange shaCutsSpec)

/-- ITS FALSE NEIGHBOUR: 'it returns false'. Refute it at one input. -/
def shaCutsWrong : ChangeSpec := { name := "shaCuts", fn := fun _ => fun
  | [d1, d2, d3] => { results := [.lit (.bool false)], args := [d1, d2, d3] }
  | _ => none }
def ShaCutsWrongFalsely : Prop := shaCutsRow.holds Try.pinned (OpenSpec.ofChange shaCutsWrong)

/-- 'witanlaw03.ShaPadded': WHATEVER THE INPUT: true; the input reads as it did. -/
def shaPaddedSpec : ChangeSpec := { name := "shaPadded", fn := fun _ => fun
  | [d] => { results := [.lit (.bool true)], args := [d] }
  | _ => none }
def shaPaddedRow : OpenClaim := { program := "ytlpfajiigkjooaa", sum := "6483c4b98332f67c8649185f43f54587f48e8fc56bd18ac5eb91c769e0e89813", func := "witan/witanlaw03.ShaPadded", spec := "shaPadded", inPlace := ["internal/abi.NoEscape", "internal/bytealg.MakeNoZero"], apart := false }
def ShaPaddedSaid : Prop := shaPaddedRow.holds Try.pinned (OpenSpec.ofChange shaPaddedSpec)

/-- ITS FALSE NEIGHBOUR: 'it returns false'. Refute it at one input. -/
def shaPaddedWrong : ChangeSpec := { name := "shaPadded", fn := fun _ => fun
  | [d] => { results := [.lit (.bool false)], args := [d] }
  | _ => none }
def ShaPaddedWrongFalsely : Prop := shaPaddedRow.holds Try.pinned (OpenSpec.ofChange shaPaddedWrong)

/-- 'witanlaw05.OnetimeDigits': WHATEVER THE INPUT: true; the input reads as it did. -/
def onetimeDigitsSpec : ChangeSpec := { name := "onetimeDigits", fn := fun _ => fun
  | [d] => { results := [.lit (.bool true)], args := [d] }
  | _ => none }
def onetimeDigitsRow : OpenClaim := { program := "ytlpfajiigkjooaa", sum := "6483c4b98332f67c8649185f43f54587f48e8fc56bd18ac5eb91c769e0e89813", func := "witan/witanlaw05.OnetimeDigits", spec := "onetimeDigits", inPlace := ["internal/abi.NoEscape", "internal/bytealg.MakeNoZero"], apart := false }
def OnetimeDigitsSaid : Prop := onetimeDigitsRow.holds Try.pinned (OpenSpec.ofChange onetimeDigitsSpec)

/-- ITS FALSE NEIGHBOUR: 'it returns false'. Refute it at one input. -/
def onetimeDigitsWrong : ChangeSpec := { name := "onetimeDigits", fn := fun _ => fun
  | [d] => { results := [.lit (.bool false)], args := [d] }
  | _ => none }
def OnetimeDigitsWrongFalsely : Prop := onetimeDigitsRow.holds Try.pinned (OpenSpec.ofChange onetimeDigitsWrong)

/-- 'witanlaw05.OnetimeSteps': WHATEVER THE INPUT: true; the input reads as it did. -/
def onetimeStepsSpec : ChangeSpec := { name := "onetimeSteps", fn := fun _ => fun
  | [d1, d2, d3] => { results := [.lit (.bool true)], args := [d1, d2, d3] }
  | _ => none }
def onetimeStepsRow : OpenClaim := { program := "ytlpfajiigkjooaa", sum := "6483c4b98332f67c8649185f43f54587f48e8fc56bd18ac5eb91c769e0e89813", func := "witan/witanlaw05.OnetimeSteps", spec := "onetimeSteps", inPlace := ["internal/abi.NoEscape", "internal/bytealg.MakeNoZero"], apart := false }
def OnetimeStepsSaid : Prop := onetimeStepsRow.holds Try.pinned (OpenSpec.ofChange onetimeStepsSpec)

/-- ITS FALSE NEIGHBOUR: 'it returns false'. Refute it at one input. -/
def onetimeStepsWrong : ChangeSpec := { name := "onetimeSteps", fn := fun _ => fun
  | [d1, d2, d3] => { results := [.lit (.bool false)], args := [d1, d2, d3] }
  | _ => none }
def OnetimeStepsWrongFalsely : Prop := onetimeStepsRow.holds Try.pinned (OpenSpec.ofChange onetimeStepsWrong)

/-- 'witanlaw05.OnetimeLacks': WHATEVER THE INPUT: true; the input reads as it did. -/
def onetimeLacksSpec : ChangeSpec := { name := "onetimeLacks", fn := fun _ => fun
  | [d1, d2] => { results := [.lit (.bool true)], args := [d1, d2] }
  | _ => none }
def onetimeLacksRow : OpenClaim := { program := "ytlpfajiigkjooaa", sum := "6483c4b98332f67c8649185f43f54587f48e8fc56bd18ac5eb91c769e0e89813", func := "witan/witanlaw05.OnetimeLacks", spec := "onetimeLacks", inPlace := ["internal/abi.NoEscape", "internal/bytealg.MakeNoZero"], apart := false }
def OnetimeLacksSaid : Prop := onetimeLacksRow.holds Try.pinned (OpenSpec.ofChange onetimeLacksSpec)

/-- ITS FALSE NEIGHBOUR: 'it returns false'. Refute it at one input. -/
def onetimeLacksWrong : ChangeSpec := { name := "onetimeLacks", fn := fun _ => fun
  | [d1, d2] => { results := [.lit (.bool false)], args := [d1, d2] }
  | _ => none }
def OnetimeLacksWrongFalsely : Prop := onetimeLacksRow.holds Try.pinned (OpenSpec.ofChange onetimeLacksWrong)

/-- 'witanlaw04.MacSums': WHATEVER THE INPUT: true; the input reads as it did. -/
def macSumsSpec : ChangeSpec := { name := "macSums", fn := fun _ => fun
  | [d1, d2] => { results := [.lit (.bool true)], args := [d1, d2] }
  | _ => none }
def macSumsRow : OpenClaim := { program := "ytlpfajiigkjooaa", sum := "6483c4b98332f67c8649185f43f54587f48e8fc56bd18ac5eb91c769e0e89813", func := "witan/witanlaw04.MacSums", spec := "macSums", inPlace := ["internal/abi.NoEscape", "internal/bytealg.MakeNoZero"], apart := false }
def MacSumsSaid : Prop := macSumsRow.holds Try.pinned (OpenSpec.ofChange macSumsSpec)

/-- ITS FALSE NEIGHBOUR: 'it returns false'. Refute it at one input. -/
def macSumsWrong : ChangeSpec := { name := "macSums", fn := fun _ => fun
  | [d1, d2] => { results := [.lit (.bool false)], args := [d1, d2] }
  | _ => none }
def MacSumsWrongFalsely : Prop := macSumsRow.holds Try.pinned (OpenSpec.ofChange macSumsWrong)

/-- 'witanlaw04.MacLong': WHATEVER THE INPUT: true; the input reads as it did. -/
def macLongSpec : ChangeSpec := { name := "macLong", fn := fun _ => fun
  | [d1, d2, d3] => { results := [.lit (.bool true)], args := [d1, d2, d3] }
  | _ => none }
def macLongRow : OpenClaim := { program := "ytlpfajiigkjooaa", sum := "6483c4b98332f67c8649185f43f54587f48e8fc56bd18ac5eb91c769e0e89813", func := "witan/witanlaw04.MacLong", spec := "macLong", inPlace := ["internal/abi.NoEscape", "internal/bytealg.MakeNoZero"], apart := false }
def MacLongSaid : Prop := macLongRow.holds Try.pinned (OpenSpec.ofChange macLongSpec)

/-- ITS FALSE NEIGHBOUR: 'it returns false'. Refute it at one input. -/
def macLongWrong : ChangeSpec := { name := "macLong", fn := fun _ => fun
  | [d1, d2, d3] => { results := [.lit (.bool false)], args := [d1, d2, d3] }
  | _ => none }
def MacLongWrongFalsely : Prop := macLongRow.holds Try.pinned (OpenSpec.ofChange macLongWrong)

/-- 'witanlaw05.OnetimeRecovers': WHATEVER THE INPUT: true; the input reads as it did. -/
def onetimeRecoversSpec : ChangeSpec := { name := "onetimeRecovers", fn := fun _ => fun
  | [d1, d2] => { results := [.lit (.bool true)], args := [d1, d2] }
  | _ => none }
def onetimeRecoversRow : OpenClaim := { program := "ytlpfajiigkjooaa", sum := "6483c4b98332f67c8649185f43f54587f48e8fc56bd18ac5eb91c769e0e89813", func := "witan/witanlaw05.OnetimeRecovers", spec := "onetimeRecovers", inPlace := ["internal/abi.NoEscape", "internal/bytealg.MakeNoZero"], apart := false }
def OnetimeRecoversSaid : Prop := onetimeRecoversRow.holds Try.pinned (OpenSpec.ofChange onetimeRecoversSpec)

/-- ITS FALSE NEIGHBOUR: 'it returns false'. Refute it at one input. -/
def onetimeRecoversWrong : ChangeSpec := { name := "onetimeRecovers", fn := fun _ => fun
  | [d1, d2] => { results := [.lit (.bool false)], args := [d1, d2] }
  | _ => none }
def OnetimeRecoversWrongFalsely : Prop := onetimeRecoversRow.holds Try.pinned (OpenSpec.ofChange onetimeRecoversWrong)

/-- 'witanlaw04.MacPairs': WHATEVER THE INPUT: true; the input reads as it did. -/
def macPairsSpec : ChangeSpec := { name := "macPairs", fn := fun _ => fun
  | [d1, d2, d3] => { results := [.lit (.bool true)], args := [d1, d2, d3] }
  | _ => none }
def macPairsRow : OpenClaim := { program := "ytlpfajiigkjooaa", sum := "6483c4b98332f67c8649185f43f54587f48e8fc56bd18ac5eb91c769e0e89813", func := "witan/witanlaw04.MacPairs", spec := "macPairs", inPlace := ["internal/abi.NoEscape", "internal/bytealg.MakeNoZero"], apart := false }
def MacPairsSaid : Prop := macPairsRow.holds Try.pinned (OpenSpec.ofChange macPairsSpec)

/-- ITS FALSE NEIGHBOUR: 'it returns false'. Refute it at one input. -/
def macPairsWrong : ChangeSpec := { name := "macPairs", fn := fun _ => fun
  | [d1, d2, d3] => { results := [.lit (.bool false)], args := [d1, d2, d3] }
  | _ => none }
def MacPairsWrongFalsely : Prop := macPairsRow.holds Try.pinned (OpenSpec.ofChange macPairsWrong)

/-- 'witanlaw05.OnetimeKeys': WHATEVER THE INPUT: true; the input reads as it did. -/
def onetimeKeysSpec : ChangeSpec := { name := "onetimeKeys", fn := fun _ => fun
  | [d1, d2] => { results := [.lit (.bool true)], args := [d1, d2] }
  | _ => none }
def onetimeKeysRow : OpenClaim := { program := "ytlpfajiigkjooaa", sum := "6483c4b98332f67c8649185f43f54587f48e8fc56bd18ac5eb91c769e0e89813", func := "witan/witanlaw05.OnetimeKeys", spec := "onetimeKeys", inPlace := ["internal/abi.NoEscape", "internal/bytealg.MakeNoZero"], unfollowed := true, recurses := true, apart := false }
def OnetimeKeysSaid : Prop := onetimeKeysRow.holds Try.pinned (OpenSpec.ofChange onetimeKeysSpec)

/-- ITS FALSE NEIGHBOUR: 'it returns false'. Refute it at one input. -/
def onetimeKeysWrong : ChangeSpec := { name := "onetimeKeys", fn := fun _ => fun
  | [d1, d2] => { results := [.lit (.bool false)], args := [d1, d2] }
  | _ => none }
def OnetimeKeysWrongFalsely : Prop := onetimeKeysRow.holds Try.pinned (OpenSpec.ofChange onetimeKeysWrong)

/-- 'witanlaw05.OnetimeSigns': WHATEVER THE INPUT: true; the input reads as it did. -/
def onetimeSignsSpec : ChangeSpec := { name := "onetimeSigns", fn := fun _ => fun
  | [d1, d2, d3] => { results := [.lit (.bool true)], args := [d1, d2, d3] }
  | _ => none }
def onetimeSignsRow : OpenClaim := { program := "ytlpfajiigkjooaa", sum := "6483c4b98332f67c8649185f43f54587f48e8fc56bd18ac5eb91c769e0e89813", func := "witan/witanlaw05.OnetimeSigns", spec := "onetimeSigns", inPlace := ["internal/abi.NoEscape", "internal/bytealg.MakeNoZero"], unfollowed := true, recurses := true, apart := false }
def OnetimeSignsSaid : Prop := onetimeSignsRow.holds Try.pinned (OpenSpec.ofChange onetimeSignsSpec)

/-- ITS FALSE NEIGHBOUR: 'it returns false'. Refute it at one input. -/
def onetimeSignsWrong : ChangeSpec := { name := "onetimeSigns", fn := fun _ => fun
  | [d1, d2, d3] => { results := [.lit (.bool false)], args := [d1, d2, d3] }
  | _ => none }
def OnetimeSignsWrongFalsely : Prop := onetimeSignsRow.holds Try.pinned (OpenSpec.ofChange onetimeSignsWrong)

/-- 'witanlaw04.MacChecks': WHATEVER THE INPUT: true; the input reads as it did. -/
def macChecksSpec : ChangeSpec := { name := "macChecks", fn := fun _ => fun
  | [d] => { results := [.lit (.bool true)], args := [d] }
  | _ => none }
def macChecksRow : OpenClaim := { program := "ytlpfajiigkjooaa", sum := "6483c4b98332f67c8649185f43f54587f48e8fc56bd18ac5eb91c769e0e89813", func := "witan/witanlaw04.MacChecks", spec := "macChecks", inPlace := ["internal/abi.NoEscape", "internal/bytealg.MakeNoZero"], apart := false }
def MacChecksSaid : Prop := macChecksRow.holds Try.pinned (OpenSpec.ofChange macChecksSpec)

/-- ITS FALSE NEIGHBOUR: 'it returns false'. Refute it at one input. -/
def macChecksWrong : ChangeSpec := { name := "macChecks", fn := fun _ => fun
  | [d] => { results := [.lit (.bool false)], args := [d] }
  | _ => none }
def MacChecksWrongFalsely : Prop := macChecksRow.holds Try.pinned (OpenSpec.ofChange macChecksWrong)

/-- 'witanlaw05.OnetimeBack': WHATEVER THE INPUT: true; the input reads as it did. -/
def onetimeBackSpec : ChangeSpec := { name := "onetimeBack", fn := fun _ => fun
  | [d1, d2, d3] => { results := [.lit (.bool true)], args := [d1, d2, d3] }
  | _ => none }
def onetimeBackRow : OpenClaim := { program := "ytlpfajiigkjooaa", sum := "6483c4b98332f67c8649185f43f54587f48e8fc56bd18ac5eb91c769e0e89813", func := "witan/witanlaw05.OnetimeBack", spec := "onetimeBack", inPlace := ["internal/abi.NoEscape", "internal/bytealg.MakeNoZero"], unfollowed := true, recurses := true, apart := false }
def OnetimeBackSaid : Prop := onetimeBackRow.holds Try.pinned (OpenSpec.ofChange onetimeBackSpec)

/-- ITS FALSE NEIGHBOUR: 'it returns false'. Refute it at one input. -/
def onetimeBackWrong : ChangeSpec := { name := "onetimeBack", fn := fun _ => fun
  | [d1, d2, d3] => { results := [.lit (.bool false)], args := [d1, d2, d3] }
  | _ => none }
def OnetimeBackWrongFalsely : Prop := onetimeBackRow.holds Try.pinned (OpenSpec.ofChange onetimeBackWrong)

/-- 'witanlaw04.MacVectors': WHATEVER THE INPUT: true; the input reads as it did. -/
def macVectorsSpec : ChangeSpec := { name := "macVectors", fn := fun _ => fun
  | [d1, d2] => { results := [.lit (.bool true)], args := [d1, d2] }
  | _ => none }
def macVectorsRow : OpenClaim := { program := "ytlpfajiigkjooaa", sum := "6483c4b98332f67c8649185f43f54587f48e8fc56bd18ac5eb91c769e0e89813", func := "witan/witanlaw04.MacVectors", spec := "macVectors", inPlace := ["internal/abi.NoEscape", "internal/bytealg.MakeNoZero"], apart := false }
def MacVectorsSaid : Prop := macVectorsRow.holds Try.pinned (OpenSpec.ofChange macVectorsSpec)

/-- ITS FALSE NEIGHBOUR: 'it returns false'. Refute it at one input. -/
def macVectorsWrong : ChangeSpec := { name := "macVectors", fn := fun _ => fun
  | [d1, d2] => { results := [.lit (.bool false)], args := [d1, d2] }
  | _ => none }
def MacVectorsWrongFalsely : Prop := macVectorsRow.holds Try.pinned (OpenSpec.ofChange macVectorsWrong)

/-- 'witanlaw04.MacTaken': WHATEVER THE INPUT: true; the input reads as it did. -/
def macTakenSpec : ChangeSpec := { name := "macTaken", fn := fun _ => fun
  | [d1, d2] => { results := [.lit (.bool true)], args := [d1, d2] }
  | _ => none }
def macTakenRow : OpenClaim := { program := "ytlpfajiigkjooaa", sum := "6483c4b98332f67c8649185f43f54587f48e8fc56bd18ac5eb91c769e0e89813", func := "witan/witanlaw04.MacTaken", spec := "macTaken", inPlace := ["internal/abi.NoEscape", "internal/bytealg.MakeNoZero"], apart := false }
def MacTakenSaid : Prop := macTakenRow.holds Try.pinned (OpenSpec.ofChange macTakenSpec)

/-- ITS FALSE NEIGHBOUR: 'it returns false'. Refute it at one input. -/
def macTakenWrong : ChangeSpec := { name := "macTaken", fn := fun _ => fun
  | [d1, d2] => { results := [.lit (.bool false)], args := [d1, d2] }
  | _ => none }
def MacTakenWrongFalsely : Prop := macTakenRow.holds Try.pinned (OpenSpec.ofChange macTakenWrong)

/- THE SECOND FORM. 'bulk': how many values and letters a reading holds, each counted each time it is reached (what is shared counts as often as it is met; a slice's spare places count too). A statement '..UptoSaid' is the law's where the arguments, and the package variables that the reading takes, are together of bulk at most 1048576: NARROWER than '..Said'. Prove '..Said' where nothing that the law and all that it calls make is longer than what came in: it says more and counts as full. Else prove '..UptoSaid'. A law counts once. -/
mutual
def uptoBulk {H : Type} : DataW H → Nat
  | .lit (.string bytes) => bytes.length + 1
  | .lit _ => 1
  | .nil => 1
  | .ptr d => uptoBulk d + 1
  | .slice elems spare => uptoBulkAll elems + uptoBulkAll spare + 1
  | .agg parts => uptoBulkAll parts + 1
  | .iface _ d => uptoBulk d + 1
  | .map entries => uptoBulkEntries entries + 1
  | .held _ => 1
def uptoBulkAll {H : Type} : List (DataW H) → Nat
  | [] => 0
  | d :: r => uptoBulk d + uptoBulkAll r
def uptoBulkEntries {H : Type} : List (Lit × DataW H) → Nat
  | [] => 0
  | x :: r => uptoBulkEntry x + uptoBulkEntries r
def uptoBulkEntry {H : Type} : Lit × DataW H → Nat
  | (.string bytes, d) => bytes.length + uptoBulk d + 1
  | (_, d) => uptoBulk d + 1
 end
def uptoSmall : (H : Type) → List (DataW H) → Bool := fun _ ds => decide (uptoBulkAll ds ≤ 1048576)
def OpenSpec.upto (s : _root_.Go.ChangeSpec) : _root_.Go.OpenSpec := { _root_.Go.OpenSpec.ofChange s with cond := some uptoSmall }

/-- 'witanlaw03.ShaSums', WHERE WHAT IT READS IS OF BULK AT MOST 1048576: true; the input reads as it did. -/
def shaSumsUptoRow : OpenClaim := { program := "ytlpfajiigkjooaa", sum := "6483c4b98332f67c8649185f43f54587f48e8fc56bd18ac5eb91c769e0e89813", func := "witan/witanlaw03.ShaSums", spec := "shaSums", inPlace := ["internal/abi.NoEscape", "internal/bytealg.MakeNoZero"], apart := false, narrowed := true }
def ShaSumsUptoSaid : Prop := shaSumsUptoRow.holds Try.pinned (OpenSpec.upto shaSumsSpec)

/-- 'witanlaw03.ShaPads', WHERE WHAT IT READS IS OF BULK AT MOST 1048576: true; the input reads as it did. -/
def shaPadsUptoRow : OpenClaim := { program := "ytlpfajiigkjooaa", sum := "6483c4b98332f67c8649185f43f54587f48e8fc56bd18ac5eb91c769e0e89813", func := "witan/witanlaw03.ShaPads", spec := "shaPads", inPlace := ["internal/abi.NoEscape", "internal/bytealg.MakeNoZero"], apart := false, narrowed := true }
def ShaPadsUptoSaid : Prop := shaPadsUptoRow.holds Try.pinned (OpenSpec.upto shaPadsSpec)

/-- 'witanlaw03.ShaParts', WHERE WHAT IT READS IS OF BULK AT MOST 1048576: true; the input reads as it did. -/
def shaPartsUptoRow : OpenClaim := { program := "ytlpfajiigkjooaa", sum := "6483c4b98332f67c8649185f43f54587f48e8fc56bd18ac5eb91c769e0e89813", func := "witan/witanlaw03.ShaParts", spec := "shaParts", inPlace := ["internal/abi.NoEscape", "internal/bytealg.MakeNoZero"], apart := false, narrowed := true }
def ShaPartsUptoSaid : Prop := shaPartsUptoRow.holds Try.pinned (OpenSpec.upto shaPartsSpec)

/-- 'witanlaw03.ShaCuts', WHERE WHAT IT READS IS OF BULK AT MOST 1048576: true; the input reads as it did. -/
def shaCutsUptoRow : OpenClaim := { program := "ytlpfajiigkjooaa", sum := "6483c4b98332f67c8649185f43f54587f48e8fc56bd18ac5eb91c769e0e89813", func := "witan/witanlaw03.ShaCuts", spec := "shaCuts", inPlace := ["internal/abi.NoEscape", "internal/bytealg.MakeNoZero"], apart := false, narrowed := true }
def ShaCutsUptoSaid : Prop := shaCutsUptoRow.holds Try.pinned (OpenSpec.upto shaCutsSpec)

/-- 'witanlaw03.ShaPadded', WHERE WHAT IT READS IS OF BULK AT MOST 1048576: true; the input reads as it did. -/
def shaPaddedUptoRow : OpenClaim := { program := "ytlpfajiigkjooaa", sum := "6483c4b98332f67c8649185f43f54587f48e8fc56bd18ac5eb91c769e0e89813", func := "witan/witanlaw03.ShaPadded", spec := "shaPadded", inPlace := ["internal/abi.NoEscape", "internal/bytealg.MakeNoZero"], apart := false, narrowed := true }
def ShaPaddedUptoSaid : Prop := shaPaddedUptoRow.holds Try.pinned (OpenSpec.upto shaPaddedSpec)

/-- 'witanlaw05.OnetimeDigits', WHERE WHAT IT READS IS OF BULK AT MOST 1048576: true; the input reads as it did. -/
def onetimeDigitsUptoRow : OpenClaim := { program := "ytlpfajiigkjooaa", sum := "6483c4b98332f67c8649185f43f54587f48e8fc56bd18ac5eb91c769e0e89813", func := "witan/witanlaw05.OnetimeDigits", spec := "onetimeDigits", inPlace := ["internal/abi.NoEscape", "internal/bytealg.MakeNoZero"], apart := false, narrowed := true }
def OnetimeDigitsUptoSaid : Prop := onetimeDigitsUptoRow.holds Try.pinned (OpenSpec.upto onetimeDigitsSpec)

/-- 'witanlaw05.OnetimeSteps', WHERE WHAT IT READS IS OF BULK AT MOST 1048576: true; the input reads as it did. -/
def onetimeStepsUptoRow : OpenClaim := { program := "ytlpfajiigkjooaa", sum := "6483c4b98332f67c8649185f43f54587f48e8fc56bd18ac5eb91c769e0e89813", func := "witan/witanlaw05.OnetimeSteps", spec := "onetimeSteps", inPlace := ["internal/abi.NoEscape", "internal/bytealg.MakeNoZero"], apart := false, narrowed := true }
def OnetimeStepsUptoSaid : Prop := onetimeStepsUptoRow.holds Try.pinned (OpenSpec.upto onetimeStepsSpec)

/-- 'witanlaw05.OnetimeLacks', WHERE WHAT IT READS IS OF BULK AT MOST 1048576: true; the input reads as it did. -/
def onetimeLacksUptoRow : OpenClaim := { program := "ytlpfajiigkjooaa", sum := "6483c4b98332f67c8649185f43f54587f48e8fc56bd18ac5eb91c769e0e89813", func := "witan/witanlaw05.OnetimeLacks", spec := "onetimeLacks", inPlace := ["internal/abi.NoEscape", "internal/bytealg.MakeNoZero"], apart := false, narrowed := true }
def OnetimeLacksUptoSaid : Prop := onetimeLacksUptoRow.holds Try.pinned (OpenSpec.upto onetimeLacksSpec)

/-- 'witanlaw04.MacSums', WHERE WHAT IT READS IS OF BULK AT MOST 1048576: true; the input reads as it did. -/
def macSumsUptoRow : OpenClaim := { program := "ytlpfajiigkjooaa", sum := "6483c4b98332f67c8649185f43f54587f48e8fc56bd18ac5eb91c769e0e89813", func := "witan/witanlaw04.MacSums", spec := "macSums", inPlace := ["internal/abi.NoEscape", "internal/bytealg.MakeNoZero"], apart := false, narrowed := true }
def MacSumsUptoSaid : Prop := macSumsUptoRow.holds Try.pinned (OpenSpec.upto macSumsSpec)

/-- 'witanlaw04.MacLong', WHERE WHAT IT READS IS OF BULK AT MOST 1048576: true; the input reads as it did. -/
def macLongUptoRow : OpenClaim := { program := "ytlpfajiigkjooaa", sum := "6483c4b98332f67c8649185f43f54587f48e8fc56bd18ac5eb91c769e0e89813", func := "witan/witanlaw04.MacLong", spec := "macLong", inPlace := ["internal/abi.NoEscape", "internal/bytealg.MakeNoZero"], apart := false, narrowed := true }
def MacLongUptoSaid : Prop := macLongUptoRow.holds Try.pinned (OpenSpec.upto macLongSpec)

/-- 'witanlaw05.OnetimeRecovers', WHERE WHAT IT READS IS OF BULK AT MOST 1048576: true; the input reads as it did. -/
def onetimeRecoversUptoRow : OpenClaim := { program := "ytlpfajiigkjooaa", sum := "6483c4b98332f67c8649185f43f54587f48e8fc56bd18ac5eb91c769e0e89813", func := "witan/witanlaw05.OnetimeRecovers", spec := "onetimeRecovers", inPlace := ["internal/abi.NoEscape", "internal/bytealg.MakeNoZero"], apart := false, narrowed := true }
def OnetimeRecoversUptoSaid : Prop := onetimeRecoversUptoRow.holds Try.pinned (OpenSpec.upto onetimeRecoversSpec)

/-- 'witanlaw04.MacPairs', WHERE WHAT IT READS IS OF BULK AT MOST 1048576: true; the input reads as it did. -/
def macPairsUptoRow : OpenClaim := { program := "ytlpfajiigkjooaa", sum := "6483c4b98332f67c8649185f43f54587f48e8fc56bd18ac5eb91c769e0e89813", func := "witan/witanlaw04.MacPairs", spec := "macPairs", inPlace := ["internal/abi.NoEscape", "internal/bytealg.MakeNoZero"], apart := false, narrowed := true }
def MacPairsUptoSaid : Prop := macPairsUptoRow.holds Try.pinned (OpenSpec.upto macPairsSpec)

/-- 'witanlaw05.OnetimeKeys', WHERE WHAT IT READS IS OF BULK AT MOST 1048576: true; the input reads as it did. -/
def onetimeKeysUptoRow : OpenClaim := { program := "ytlpfajiigkjooaa", sum := "6483c4b98332f67c8649185f43f54587f48e8fc56bd18ac5eb91c769e0e89813", func := "witan/witanlaw05.OnetimeKeys", spec := "onetimeKeys", inPlace := ["internal/abi.NoEscape", "internal/bytealg.MakeNoZero"], unfollowed := true, recurses := true, apart := false, narrowed := true }
def OnetimeKeysUptoSaid : Prop := onetimeKeysUptoRow.holds Try.pinned (OpenSpec.upto onetimeKeysSpec)

/-- 'witanlaw05.OnetimeSigns', WHERE WHAT IT READS IS OF BULK AT MOST 1048576: true; the input reads as it did. -/
def onetimeSignsUptoRow : OpenClaim := { program := "ytlpfajiigkjooaa", sum := "6483c4b98332f67c8649185f43f54587f48e8fc56bd18ac5eb91c769e0e89813", func := "witan/witanlaw05.OnetimeSigns", spec := "onetimeSigns", inPlace := ["internal/abi.NoEscape", "internal/bytealg.MakeNoZero"], unfollowed := true, recurses := true, apart := false, narrowed := true }
def OnetimeSignsUptoSaid : Prop := onetimeSignsUptoRow.holds Try.pinned (OpenSpec.upto onetimeSignsSpec)

/-- 'witanlaw04.MacChecks', WHERE WHAT IT READS IS OF BULK AT MOST 1048576: true; the input reads as it did. -/
def macChecksUptoRow : OpenClaim := { program := "ytlpfajiigkjooaa", sum := "6483c4b98332f67c8649185f43f54587f48e8fc56bd18ac5eb91c769e0e89813", func := "witan/witanlaw04.MacChecks", spec := "macChecks", inPlace := ["internal/abi.NoEscape", "internal/bytealg.MakeNoZero"], apart := false, narrowed := true }
def MacChecksUptoSaid : Prop := macChecksUptoRow.holds Try.pinned (OpenSpec.upto macChecksSpec)

/-- 'witanlaw05.OnetimeBack', WHERE WHAT IT READS IS OF BULK AT MOST 1048576: true; the input reads as it did. -/
def onetimeBackUptoRow : OpenClaim := { program := "ytlpfajiigkjooaa", sum := "6483c4b98332f67c8649185f43f54587f48e8fc56bd18ac5eb91c769e0e89813", func := "witan/witanlaw05.OnetimeBack", spec := "onetimeBack", inPlace := ["internal/abi.NoEscape", "internal/bytealg.MakeNoZero"], unfollowed := true, recurses := true, apart := false, narrowed := true }
def OnetimeBackUptoSaid : Prop := onetimeBackUptoRow.holds Try.pinned (OpenSpec.upto onetimeBackSpec)

/-- 'witanlaw04.MacVectors', WHERE WHAT IT READS IS OF BULK AT MOST 1048576: true; the input reads as it did. -/
def macVectorsUptoRow : OpenClaim := { program := "ytlpfajiigkjooaa", sum := "6483c4b98332f67c8649185f43f54587f48e8fc56bd18ac5eb91c769e0e89813", func := "witan/witanlaw04.MacVectors", spec := "macVectors", inPlace := ["internal/abi.NoEscape", "internal/bytealg.MakeNoZero"], apart := false, narrowed := true }
def MacVectorsUptoSaid : Prop := macVectorsUptoRow.holds Try.pinned (OpenSpec.upto macVectorsSpec)

/-- 'witanlaw04.MacTaken', WHERE WHAT IT READS IS OF BULK AT MOST 1048576: true; the input reads as it did. -/
def macTakenUptoRow : OpenClaim := { program := "ytlpfajiigkjooaa", sum := "6483c4b98332f67c8649185f43f54587f48e8fc56bd18ac5eb91c769e0e89813", func := "witan/witanlaw04.MacTaken", spec := "macTaken", inPlace := ["internal/abi.NoEscape", "internal/bytealg.MakeNoZero"], apart := false, narrowed := true }
def MacTakenUptoSaid : Prop := macTakenUptoRow.holds Try.pinned (OpenSpec.upto macTakenSpec)

end Rows
end Go.Proofs.Ytlpfajiigkjooaa
