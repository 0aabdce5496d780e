/-
  No cell of these rows narrows 'for every input' (looked for: loops, veiled, ifaces, maps, wideKeys, modest, calm, conditions, laid).
  DERIVED. THE GIVEN ROWS OF THIS SEAT. 12 by the template 'for every input the law returns true; each argument reads behind the call as it read before'; 0 by the template 'total and deterministic' (their statements: YtljnadbfadgglaaTotals.lean).
  GIVEN WITH THE SEED: the statements are not yours to turn. If you find one false, say at which input.
  Laid BY PROGRAM, IN A SANDBOX (cutbox-rows.mjs): the forced cells as the released guide's own fill.sh prints them over the translation 013a0c5155ce906f… (all of the seat's roots in one cut). By AI agents, Wed Nov 11 2026. No macro, syntax, notation, axiom, sorry.
-/
import Derived.Test.YtljnadbfadgglaaChecked
import GoSem.Claim
import GoSem.ClaimJoined
import GoSem.ClaimMapViews
import Derived.JoinedTies
import Derived.KernelRfl
namespace Go.Proofs.Ytljnadbfadgglaa
/- THE CELL 'sum', in the pinned program and in every row, IS THE sha256 OF THE DUMP (.gsa) THAT YtljnadbfadgglaaProg.lean LOADS. Nothing in Lean hashes anything: it is a label: what it is worth is what the hold of that sum in a sandbox is worth. -/
noncomputable def Try.pinned : Pinned := { name := "ytljnadbfadgglaa", sum := "013a0c5155ce906f81aa0ca5c88c1ef9c4e5b9f03f5749c190a5322921910d15", checked := Try.checked }
namespace Rows
def none {H : Type} : Left H := { results := [], args := [] }

/-- 'witanlaw06.GroveRoots': WHATEVER THE INPUT: true; the input reads as it did. -/
def groveRootsSpec : ChangeSpec := { name := "groveRoots", fn := fun _ => fun
  | [d] => { results := [.lit (.bool true)], args := [d] }
  | _ => none }
def groveRootsRow : OpenClaim := { program := "ytljnadbfadgglaa", sum := "013a0c5155ce906f81aa0ca5c88c1ef9c4e5b9f03f5749c190a5322921910d15", func := "witan/witanlaw06.GroveRoots", spec := "groveRoots", inPlace := ["internal/abi.NoEscape", "internal/bytealg.MakeNoZero"], unfollowed := true, recurses := true, apart := false }
def GroveRootsSaid : Prop := groveRootsRow.holds Try.pinned (OpenSpec.ofChange groveRootsSpec)

/-- ITS FALSE NEIGHBOUR: 'it returns false'. Refute it at one input. -/
def groveRootsWrong : ChangeSpec := { name := "groveRoots", fn := fun _ => fun
  | [d] => { results := [.lit (.bool false)], args := [d] }
  | _ => none }
def GroveRootsWrongFalsely : Prop := groveRootsRow.holds Try.pinned (OpenSpec.ofChange groveRootsWrong)

/-- 'witanlaw06.GroveSigns': WHATEVER THE INPUT: true; the input reads as it did. -/
def groveSignsSpec : ChangeSpec := { name := "groveSigns", fn := fun _ => fun
  | [d1, d2] => { results := [.lit (.bool true)], args := [d1, d2] }
  | _ => none }
def groveSignsRow : OpenClaim := { program := "ytljnadbfadgglaa", sum := "013a0c5155ce906f81aa0ca5c88c1ef9c4e5b9f03f5749c190a5322921910d15", func := "witan/witanlaw06.GroveSigns", spec := "groveSigns", inPlace := ["internal/abi.NoEscape", "internal/bytealg.MakeNoZero"], unfollowed := true, recurses := true, apart := false }
def GroveSignsSaid : Prop := groveSignsRow.holds Try.pinned (OpenSpec.ofChange groveSignsSpec)

/-- ITS FALSE NEIGHBOUR: 'it returns false'. Refute it at one input. -/
def groveSignsWrong : ChangeSpec := { name := "groveSigns", fn := fun _ => fun
  | [d1, d2] => { results := [.lit (.bool false)], args := [d1, d2] }
  | _ => none }
def GroveSignsWrongFalsely : Prop := groveSignsRow.holds Try.pinned (OpenSpec.ofChange groveSignsWrong)

/-- 'witanlaw06.GroveNil': WHATEVER THE INPUT: true; the input reads as it did. -/
def groveNilSpec : ChangeSpec := { name := "groveNil", fn := fun _ => fun
  | [d] => { results := [.lit (.bool true)], args := [d] }
  | _ => none }
def groveNilRow : OpenClaim := { program := "ytljnadbfadgglaa", sum := "013a0c5155ce906f81aa0ca5c88c1ef9c4e5b9f03f5749c190a5322921910d15", func := "witan/witanlaw06.GroveNil", spec := "groveNil", inPlace := ["internal/abi.NoEscape", "internal/bytealg.MakeNoZero"], unfollowed := true, recurses := true, apart := false }
def GroveNilSaid : Prop := groveNilRow.holds Try.pinned (OpenSpec.ofChange groveNilSpec)

/-- ITS FALSE NEIGHBOUR: 'it returns false'. Refute it at one input. -/
def groveNilWrong : ChangeSpec := { name := "groveNil", fn := fun _ => fun
  | [d] => { results := [.lit (.bool false)], args := [d] }
  | _ => none }
def GroveNilWrongFalsely : Prop := groveNilRow.holds Try.pinned (OpenSpec.ofChange groveNilWrong)

/-- 'witanlaw06.GroveVerifies': WHATEVER THE INPUT: true; the input reads as it did. -/
def groveVerifiesSpec : ChangeSpec := { name := "groveVerifies", fn := fun _ => fun
  | [d] => { results := [.lit (.bool true)], args := [d] }
  | _ => none }
def groveVerifiesRow : OpenClaim := { program := "ytljnadbfadgglaa", sum := "013a0c5155ce906f81aa0ca5c88c1ef9c4e5b9f03f5749c190a5322921910d15", func := "witan/witanlaw06.GroveVerifies", spec := "groveVerifies", inPlace := ["internal/abi.NoEscape", "internal/bytealg.MakeNoZero"], unfollowed := true, recurses := true, apart := false }
def GroveVerifiesSaid : Prop := groveVerifiesRow.holds Try.pinned (OpenSpec.ofChange groveVerifiesSpec)

/-- ITS FALSE NEIGHBOUR: 'it returns false'. Refute it at one input. -/
def groveVerifiesWrong : ChangeSpec := { name := "groveVerifies", fn := fun _ => fun
  | [d] => { results := [.lit (.bool false)], args := [d] }
  | _ => none }
def GroveVerifiesWrongFalsely : Prop := groveVerifiesRow.holds Try.pinned (OpenSpec.ofChange groveVerifiesWrong)

/-- 'witanlaw06.GroveTaken': WHATEVER THE INPUT: true; the input reads as it did. -/
def groveTakenSpec : ChangeSpec := { name := "groveTaken", fn := fun _ => fun
  | [d1, d2] => { results := [.lit (.bool true)], args := [d1, d2] }
  | _ => none }
def groveTakenRow : OpenClaim := { program := "ytljnadbfadgglaa", sum := "013a0c5155ce906f81aa0ca5c88c1ef9c4e5b9f03f5749c190a5322921910d15", func := "witan/witanlaw06.GroveTaken", spec := "groveTaken", inPlace := ["internal/abi.NoEscape", "internal/bytealg.MakeNoZero"], unfollowed := true, recurses := true, apart := false }
def GroveTakenSaid : Prop := groveTakenRow.holds Try.pinned (OpenSpec.ofChange groveTakenSpec)

/-- ITS FALSE NEIGHBOUR: 'it returns false'. Refute it at one input. -/
def groveTakenWrong : ChangeSpec := { name := "groveTaken", fn := fun _ => fun
  | [d1, d2] => { results := [.lit (.bool false)], args := [d1, d2] }
  | _ => none }
def GroveTakenWrongFalsely : Prop := groveTakenRow.holds Try.pinned (OpenSpec.ofChange groveTakenWrong)

/-- 'witanlaw06.GroveTwo': WHATEVER THE INPUT: true; the input reads as it did. -/
def groveTwoSpec : ChangeSpec := { name := "groveTwo", fn := fun _ => fun
  | [d1, d2] => { results := [.lit (.bool true)], args := [d1, d2] }
  | _ => none }
def groveTwoRow : OpenClaim := { program := "ytljnadbfadgglaa", sum := "013a0c5155ce906f81aa0ca5c88c1ef9c4e5b9f03f5749c190a5322921910d15", func := "witan/witanlaw06.GroveTwo", spec := "groveTwo", inPlace := ["internal/abi.NoEscape", "internal/bytealg.MakeNoZero"], unfollowed := true, recurses := true, apart := false }
def GroveTwoSaid : Prop := groveTwoRow.holds Try.pinned (OpenSpec.ofChange groveTwoSpec)

/-- ITS FALSE NEIGHBOUR: 'it returns false'. Refute it at one input. -/
def groveTwoWrong : ChangeSpec := { name := "groveTwo", fn := fun _ => fun
  | [d1, d2] => { results := [.lit (.bool false)], args := [d1, d2] }
  | _ => none }
def GroveTwoWrongFalsely : Prop := groveTwoRow.holds Try.pinned (OpenSpec.ofChange groveTwoWrong)

/-- 'witanlaw08.PapersBytes': WHATEVER THE INPUT: true; the input reads as it did. -/
def papersBytesSpec : ChangeSpec := { name := "papersBytes", fn := fun _ => fun
  | [d1, d2] => { results := [.lit (.bool true)], args := [d1, d2] }
  | _ => none }
def papersBytesRow : OpenClaim := { program := "ytljnadbfadgglaa", sum := "013a0c5155ce906f81aa0ca5c88c1ef9c4e5b9f03f5749c190a5322921910d15", func := "witan/witanlaw08.PapersBytes", spec := "papersBytes", inPlace := ["internal/abi.NoEscape", "internal/bytealg.MakeNoZero"], apart := false }
def PapersBytesSaid : Prop := papersBytesRow.holds Try.pinned (OpenSpec.ofChange papersBytesSpec)

/-- ITS FALSE NEIGHBOUR: 'it returns false'. Refute it at one input. -/
def papersBytesWrong : ChangeSpec := { name := "papersBytes", fn := fun _ => fun
  | [d1, d2] => { results := [.lit (.bool false)], args := [d1, d2] }
  | _ => none }
def PapersBytesWrongFalsely : Prop := papersBytesRow.holds Try.pinned (OpenSpec.ofChange papersBytesWrong)

/-- 'witanlaw08.PapersChecks': WHATEVER THE INPUT: true; the input reads as it did. -/
def papersChecksSpec : ChangeSpec := { name := "papersChecks", fn := fun _ => fun
  | [d1, d2] => { results := [.lit (.bool true)], args := [d1, d2] }
  | _ => none }
def papersChecksRow : OpenClaim := { program := "ytljnadbfadgglaa", sum := "013a0c5155ce906f81aa0ca5c88c1ef9c4e5b9f03f5749c190a5322921910d15", func := "witan/witanlaw08.PapersChecks", spec := "papersChecks", inPlace := ["internal/abi.NoEscape", "internal/bytealg.MakeNoZero"], apart := false }
def PapersChecksSaid : Prop := papersChecksRow.holds Try.pinned (OpenSpec.ofChange papersChecksSpec)

/-- ITS FALSE NEIGHBOUR: 'it returns false'. Refute it at one input. -/
def papersChecksWrong : ChangeSpec := { name := "papersChecks", fn := fun _ => fun
  | [d1, d2] => { results := [.lit (.bool false)], args := [d1, d2] }
  | _ => none }
def PapersChecksWrongFalsely : Prop := papersChecksRow.holds Try.pinned (OpenSpec.ofChange papersChecksWrong)

/-- 'witanlaw08.PapersWalks': WHATEVER THE INPUT: true; the input reads as it did. -/
def papersWalksSpec : ChangeSpec := { name := "papersWalks", fn := fun _ => fun
  | [d1, d2] => { results := [.lit (.bool true)], args := [d1, d2] }
  | _ => none }
def papersWalksRow : OpenClaim := { program := "ytljnadbfadgglaa", sum := "013a0c5155ce906f81aa0ca5c88c1ef9c4e5b9f03f5749c190a5322921910d15", func := "witan/witanlaw08.PapersWalks", spec := "papersWalks", inPlace := ["internal/abi.NoEscape", "internal/bytealg.MakeNoZero"], apart := false }
def PapersWalksSaid : Prop := papersWalksRow.holds Try.pinned (OpenSpec.ofChange papersWalksSpec)

/-- ITS FALSE NEIGHBOUR: 'it returns false'. Refute it at one input. -/
def papersWalksWrong : ChangeSpec := { name := "papersWalks", fn := fun _ => fun
  | [d1, d2] => { results := [.lit (.bool false)], args := [d1, d2] }
  | _ => none }
def PapersWalksWrongFalsely : Prop := papersWalksRow.holds Try.pinned (OpenSpec.ofChange papersWalksWrong)

/-- 'witanlaw08.PapersParts': WHATEVER THE INPUT: true; the input reads as it did. -/
def papersPartsSpec : ChangeSpec := { name := "papersParts", fn := fun _ => fun
  | [d1, d2, d3] => { results := [.lit (.bool true)], args := [d1, d2, d3] }
  | _ => none }
def papersPartsRow : OpenClaim := { program := "ytljnadbfadgglaa", sum := "013a0c5155ce906f81aa0ca5c88c1ef9c4e5b9f03f5749c190a5322921910d15", func := "witan/witanlaw08.PapersParts", spec := "papersParts", inPlace := ["internal/abi.NoEscape", "internal/bytealg.MakeNoZero"], apart := false }
def PapersPartsSaid : Prop := papersPartsRow.holds Try.pinned (OpenSpec.ofChange papersPartsSpec)

/-- ITS FALSE NEIGHBOUR: 'it returns false'. Refute it at one input. -/
def papersPartsWrong : ChangeSpec := { name := "papersParts", fn := fun _ => fun
  | [d1, d2, d3] => { results := [.lit (.bool false)], args := [d1, d2, d3] }
  | _ => none }
def PapersPartsWrongFalsely : Prop := papersPartsRow.holds Try.pinned (OpenSpec.ofChange papersPartsWrong)

/-- 'witanlaw08.PapersCertify': WHATEVER THE INPUT: true; the input reads as it did. -/
def papersCertifySpec : ChangeSpec := { name := "papersCertify", fn := fun _ => fun
  | [d1, d2] => { results := [.lit (.bool true)], args := [d1, d2] }
  | _ => none }
def papersCertifyRow : OpenClaim := { program := "ytljnadbfadgglaa", sum := "013a0c5155ce906f81aa0ca5c88c1ef9c4e5b9f03f5749c190a5322921910d15", func := "witan/witanlaw08.PapersCertify", spec := "papersCertify", inPlace := ["internal/abi.NoEscape", "internal/bytealg.MakeNoZero"], apart := false }
def PapersCertifySaid : Prop := papersCertifyRow.holds Try.pinned (OpenSpec.ofChange papersCertifySpec)

/-- ITS FALSE NEIGHBOUR: 'it returns false'. Refute it at one input. -/
def papersCertifyWrong : ChangeSpec := { name := "papersCertify", fn := fun _ => fun
  | [d1, d2] => { results := [.lit (.bool false)], args := [d1, d2] }
  | _ => none }
def PapersCertifyWrongFalsely : Prop := papersCertifyRow.holds Try.pinned (OpenSpec.ofChange papersCertifyWrong)

/-- 'witanlaw08.PapersTaken': WHATEVER THE INPUT: true; the input reads as it did. -/
def papersTakenSpec : ChangeSpec := { name := "papersTaken", fn := fun _ => fun
  | [d1, d2, d3] => { results := [.lit (.bool true)], args := [d1, d2, d3] }
  | _ => none }
def papersTakenRow : OpenClaim := { program := "ytljnadbfadgglaa", sum := "013a0c5155ce906f81aa0ca5c88c1ef9c4e5b9f03f5749c190a5322921910d15", func := "witan/witanlaw08.PapersTaken", spec := "papersTaken", inPlace := ["internal/abi.NoEscape", "internal/bytealg.MakeNoZero"], unfollowed := true, recurses := true, apart := false }
def PapersTakenSaid : Prop := papersTakenRow.holds Try.pinned (OpenSpec.ofChange papersTakenSpec)

/-- ITS FALSE NEIGHBOUR: 'it returns false'. Refute it at one input. -/
def papersTakenWrong : ChangeSpec := { name := "papersTaken", fn := fun _ => fun
  | [d1, d2, d3] => { results := [.lit (.bool false)], args := [d1, d2, d3] }
  | _ => none }
def PapersTakenWrongFalsely : Prop := papersTakenRow.holds Try.pinned (OpenSpec.ofChange papersTakenWrong)

/- THE SECOND FORM. 'bulk': how many values and letters a reading holds, each counted each time it is reached (what is shared counts as often as it is met; a slice's spare places count too). A statement '..UptoSaid' is the law's where the arguments, and the package variables that the reading takes, are together of bulk at most 1048576: NARROWER than '..Said'. Prove '..Said' where nothing that the law and all that it calls make is longer than what came in: it says more and counts as full. Else prove '..UptoSaid'. A law counts once. -/
mutual
def uptoBulk {H : Type} : DataW H → Nat
  | .lit (.string bytes) => bytes.length + 1
  | .lit _ => 1
  | .nil => 1
  | .ptr d => uptoBulk d + 1
  | .slice elems spare => uptoBulkAll elems + uptoBulkAll spare + 1
  | .agg parts => uptoBulkAll parts + 1
  | .iface _ d => uptoBulk d + 1
  | .map entries => uptoBulkEntries entries + 1
  | .held _ => 1
def uptoBulkAll {H : Type} : List (DataW H) → Nat
  | [] => 0
  | d :: r => uptoBulk d + uptoBulkAll r
def uptoBulkEntries {H : Type} : List (Lit × DataW H) → Nat
  | [] => 0
  | x :: r => uptoBulkEntry x + uptoBulkEntries r
def uptoBulkEntry {H : Type} : Lit × DataW H → Nat
  | (.string bytes, d) => bytes.length + uptoBulk d + 1
  | (_, d) => uptoBulk d + 1
 end
def uptoSmall : (H : Type) → List (DataW H) → Bool := fun _ ds => decide (uptoBulkAll ds ≤ 1048576)
def OpenSpec.upto (s : _root_.Go.ChangeSpec) : _root_.Go.OpenSpec := { _root_.Go.OpenSpec.ofChange s with cond := some uptoSmall }

/-- 'witanlaw06.GroveRoots', WHERE WHAT IT READS IS OF BULK AT MOST 1048576: true; the input reads as it did. -/
def groveRootsUptoRow : OpenClaim := { program := "ytljnadbfadgglaa", sum := "013a0c5155ce906f81aa0ca5c88c1ef9c4e5b9f03f5749c190a5322921910d15", func := "witan/witanlaw06.GroveRoots", spec := "groveRoots", inPlace := ["internal/abi.NoEscape", "internal/bytealg.MakeNoZero"], unfollowed := true, recurses := true, apart := false, narrowed := true }
def GroveRootsUptoSaid : Prop := groveRootsUptoRow.holds Try.pinned (OpenSpec.upto groveRootsSpec)

/-- 'witanlaw06.GroveSigns', WHERE WHAT IT READS IS OF BULK AT MOST 1048576: true; the input reads as it did. -/
def groveSignsUptoRow : OpenClaim := { program := "ytljnadbfadgglaa", sum := "013a0c5155ce906f81aa0ca5c88c1ef9c4e5b9f03f5749c190a5322921910d15", func := "witan/witanlaw06.GroveSigns", spec := "groveSigns", inPlace := ["internal/abi.NoEscape", "internal/bytealg.MakeNoZero"], unfollowed := true, recurses := true, apart := false, narrowed := true }
def GroveSignsUptoSaid : Prop := groveSignsUptoRow.holds Try.pinned (OpenSpec.upto groveSignsSpec)

/-- 'witanlaw06.GroveNil', WHERE WHAT IT READS IS OF BULK AT MOST 1048576: true; the input reads as it did. -/
def groveNilUptoRow : OpenClaim := { program := "ytljnadbfadgglaa", sum := "013a0c5155ce906f81aa0ca5c88c1ef9c4e5b9f03f5749c190a5322921910d15", func := "witan/witanlaw06.GroveNil", spec := "groveNil", inPlace := ["internal/abi.NoEscape", "internal/bytealg.MakeNoZero"], unfollowed := true, recurses := true, apart := false, narrowed := true }
def GroveNilUptoSaid : Prop := groveNilUptoRow.holds Try.pinned (OpenSpec.upto groveNilSpec)

/-- 'witanlaw06.GroveVerifies', WHERE WHAT IT READS IS OF BULK AT MOST 1048576: true; the input reads as it did. -/
def groveVerifiesUptoRow : OpenClaim := { program := "ytljnadbfadgglaa", sum := "013a0c5155ce906f81aa0ca5c88c1ef9c4e5b9f03f5749c190a5322921910d15", func := "witan/witanlaw06.GroveVerifies", spec := "groveVerifies", inPlace := ["internal/abi.NoEscape", "internal/bytealg.MakeNoZero"], unfollowed := true, recurses := true, apart := false, narrowed := true }
def GroveVerifiesUptoSaid : Prop := groveVerifiesUptoRow.holds Try.pinned (OpenSpec.upto groveVerifiesSpec)

/-- 'witanlaw06.GroveTaken', WHERE WHAT IT READS IS OF BULK AT MOST 1048576: true; the input reads as it did. -/
def groveTakenUptoRow : OpenClaim := { program := "ytljnadbfadgglaa", sum := "013a0c5155ce906f81aa0ca5c88c1ef9c4e5b9f03f5749c190a5322921910d15", func := "witan/witanlaw06.GroveTaken", spec := "groveTaken", inPlace := ["internal/abi.NoEscape", "internal/bytealg.MakeNoZero"], unfollowed := true, recurses := true, apart := false, narrowed := true }
def GroveTakenUptoSaid : Prop := groveTakenUptoRow.holds Try.pinned (OpenSpec.upto groveTakenSpec)

/-- 'witanlaw06.GroveTwo', WHERE WHAT IT READS IS OF BULK AT MOST 1048576: true; the input reads as it did. -/
def groveTwoUptoRow : OpenClaim := { program := "ytljnadbfadgglaa", sum := "013a0c5155ce906f81aa0ca5c88c1ef9c4e5b9f03f5749c190a5322921910d15", func := "witan/witanlaw06.GroveTwo", spec := "groveTwo", inPlace := ["internal/abi.NoEscape", "internal/bytealg.MakeNoZero"], unfollowed := true, recurses := true, apart := false, narrowed := true }
def GroveTwoUptoSaid : Prop := groveTwoUptoRow.holds Try.pinned (OpenSpec.upto groveTwoSpec)

/-- 'witanlaw08.PapersBytes', WHERE WHAT IT READS IS OF BULK AT MOST 1048576: true; the input reads as it did. -/
def papersBytesUptoRow : OpenClaim := { program := "ytljnadbfadgglaa", sum := "013a0c5155ce906f81aa0ca5c88c1ef9c4e5b9f03f5749c190a5322921910d15", func := "witan/witanlaw08.PapersBytes", spec := "papersBytes", inPlace := ["internal/abi.NoEscape", "internal/bytealg.MakeNoZero"], apart := false, narrowed := true }
def PapersBytesUptoSaid : Prop := papersBytesUptoRow.holds Try.pinned (OpenSpec.upto papersBytesSpec)

/-- 'witanlaw08.PapersChecks', WHERE WHAT IT READS IS OF BULK AT MOST 1048576: true; the input reads as it did. -/
def papersChecksUptoRow : OpenClaim := { program := "ytljnadbfadgglaa", sum := "013a0c5155ce906f81aa0ca5c88c1ef9c4e5b9f03f5749c190a5322921910d15", func := "witan/witanlaw08.PapersChecks", spec := "papersChecks", inPlace := ["internal/abi.NoEscape", "internal/bytealg.MakeNoZero"], apart := false, narrowed := true }
def PapersChecksUptoSaid : Prop := papersChecksUptoRow.holds Try.pinned (OpenSpec.upto papersChecksSpec)

/-- 'witanlaw08.PapersWalks', WHERE WHAT IT READS IS OF BULK AT MOST 1048576: true; the input reads as it did. -/
def papersWalksUptoRow : OpenClaim := { program := "ytljnadbfadgglaa", sum := "013a0c5155ce906f81aa0ca5c88c1ef9c4e5b9f03f5749c190a5322921910d15", func := "witan/witanlaw08.PapersWalks", spec := "papersWalks", inPlace := ["internal/abi.NoEscape", "internal/bytealg.MakeNoZero"], apart := false, narrowed := true }
def PapersWalksUptoSaid : Prop := papersWalksUptoRow.holds Try.pinned (OpenSpec.upto papersWalksSpec)

/-- 'witanlaw08.PapersParts', WHERE WHAT IT READS IS OF BULK AT MOST 1048576: true; the input reads as it did. -/
def papersPartsUptoRow : OpenClaim := { program := "ytljnadbfadgglaa", sum := "013a0c5155ce906f81aa0ca5c88c1ef9c4e5b9f03f5749c190a5322921910d15", func := "witan/witanlaw08.PapersParts", spec := "papersParts", inPlace := ["internal/abi.NoEscape", "internal/bytealg.MakeNoZero"], apart := false, narrowed := true }
def PapersPartsUptoSaid : Prop := papersPartsUptoRow.holds Try.pinned (OpenSpec.upto papersPartsSpec)

/-- 'witanlaw08.PapersCertify', WHERE WHAT IT READS IS OF BULK AT MOST 1048576: true; the input reads as it did. -/
def papersCertifyUptoRow : OpenClaim := { program := "ytljnadbfadgglaa", sum := "013a0c5155ce906f81aa0ca5c88c1ef9c4e5b9f03f5749c190a5322921910d15", func := "witan/witanlaw08.PapersCertify", spec := "papersCertify", inPlace := ["internal/abi.NoEscape", "internal/bytealg.MakeNoZero"], apart := false, narrowed := true }
def PapersCertifyUptoSaid : Prop := papersCertifyUptoRow.holds Try.pinned (OpenSpec.upto papersCertifySpec)

/-- 'witanlaw08.PapersTaken', WHERE WHAT IT READS IS OF BULK AT MOST 1048576: true; the input reads as it did. -/
def papersTakenUptoRow : OpenClaim := { program := "ytljnadbfadgglaa", sum := "013a0c5155ce906f81aa0ca5c88c1ef9c4e5b9f03f5749c190a5322921910d15", func := "witan/witanlaw08.PapersTaken", spec := "papersTaken", inPlace := ["internal/abi.NoEscape", "internal/bytealg.MakeNoZero"], unfollowed := true, recurses := true, apart := false, narrowed := true }
def PapersTakenUptoSaid : Prop := papersTakenUptoRow.holds Try.pinned (OpenSpec.upto papersTakenSpec)

end Rows
end Go.Proofs.Ytljnadbfadgglaa
