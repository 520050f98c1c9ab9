/-
  No cell of these rows narrows 'for every input' (looked for: loops, veiled, ifaces, maps, wideKeys, modest, calm, conditions, laid).
  DERIVED. THE GIVEN ROWS OF THIS SEAT. 13 by the template 'for every input the law returns true; each argument reads behind the call as it read before'; 0 by the template 'total and deterministic' (their statements: YtoflbjncpliplaaGreatTotals.lean).
  GIVEN WITH THE SEED: the statements are not yours to turn. If you find one false, say at which input.
  Laid BY PROGRAM, IN A SANDBOX (cutbox-rows.mjs): the forced cells as the released guide's own fill.sh prints them over the translation 458d357b6d46cd8e… (all of the seat's roots in one cut). By AI agents, Wed Nov 11 2026. No macro, syntax, notation, axiom, sorry.
-/
import Derived.Test.YtoflbjncpliplaaGreatChecked
import GoSem.Claim
import GoSem.ClaimJoined
import GoSem.ClaimMapViews
import Derived.JoinedTies
import Derived.KernelRfl
namespace Go.Proofs.YtoflbjncpliplaaGreat
/- THE CELL 'sum', in the pinned program and in every row, IS THE sha256 OF THE DUMP (.gsa) THAT YtoflbjncpliplaaGreatProg.lean LOADS. Nothing in Lean hashes anything: it is a label: what it is worth is what the hold of that sum in a sandbox is worth. -/
noncomputable def Tryz.pinned : Pinned := { name := "ytoflbjncpliplaagreat", sum := "458d357b6d46cd8e9e1b6c35e695f643069bacf8468f79074938eb982ccdc10b", checked := Tryz.checked }
namespace Rows
def none {H : Type} : Left H := { results := [], args := [] }

/-- 'beguinagelaw18.FileFills': WHATEVER THE INPUT: true; the input reads as it did. -/
def fileFillsSpec : ChangeSpec := { name := "fileFills", fn := fun _ => fun
  | [d1, d2, d3] => { results := [.lit (.bool true)], args := [d1, d2, d3] }
  | _ => none }
def fileFillsRow : OpenClaim := { program := "ytoflbjncpliplaagreat", sum := "458d357b6d46cd8e9e1b6c35e695f643069bacf8468f79074938eb982ccdc10b", func := "beguinage/beguinagelaw18.FileFills", spec := "fileFills", inPlace := ["internal/abi.NoEscape", "internal/bytealg.MakeNoZero", "maps.clone"], unfollowed := true, recurses := true, plainKeys := false, apart := false }
def FileFillsSaid : Prop := fileFillsRow.holds Tryz.pinned (OpenSpec.ofChange fileFillsSpec)

/-- ITS FALSE NEIGHBOUR: 'it returns false'. Refute it at one input. -/
def fileFillsWrong : ChangeSpec := { name := "fileFills", fn := fun _ => fun
  | [d1, d2, d3] => { results := [.lit (.bool false)], args := [d1, d2, d3] }
  | _ => none }
def FileFillsWrongFalsely : Prop := fileFillsRow.holds Tryz.pinned (OpenSpec.ofChange fileFillsWrong)

/-- 'beguinagelaw18.FilePlays': WHATEVER THE INPUT: true; the input reads as it did. -/
def filePlaysSpec : ChangeSpec := { name := "filePlays", fn := fun _ => fun
  | [d1, d2] => { results := [.lit (.bool true)], args := [d1, d2] }
  | _ => none }
def filePlaysRow : OpenClaim := { program := "ytoflbjncpliplaagreat", sum := "458d357b6d46cd8e9e1b6c35e695f643069bacf8468f79074938eb982ccdc10b", func := "beguinage/beguinagelaw18.FilePlays", spec := "filePlays", inPlace := ["internal/abi.NoEscape", "internal/bytealg.MakeNoZero", "maps.clone"], unfollowed := true, recurses := true, plainKeys := false, apart := false }
def FilePlaysSaid : Prop := filePlaysRow.holds Tryz.pinned (OpenSpec.ofChange filePlaysSpec)

/-- ITS FALSE NEIGHBOUR: 'it returns false'. Refute it at one input. -/
def filePlaysWrong : ChangeSpec := { name := "filePlays", fn := fun _ => fun
  | [d1, d2] => { results := [.lit (.bool false)], args := [d1, d2] }
  | _ => none }
def FilePlaysWrongFalsely : Prop := filePlaysRow.holds Tryz.pinned (OpenSpec.ofChange filePlaysWrong)

/-- 'beguinagelaw18.FileNone': WHATEVER THE INPUT: true; the input reads as it did. -/
def fileNoneSpec : ChangeSpec := { name := "fileNone", fn := fun _ => fun
  | [d1, d2, d3] => { results := [.lit (.bool true)], args := [d1, d2, d3] }
  | _ => none }
def fileNoneRow : OpenClaim := { program := "ytoflbjncpliplaagreat", sum := "458d357b6d46cd8e9e1b6c35e695f643069bacf8468f79074938eb982ccdc10b", func := "beguinage/beguinagelaw18.FileNone", spec := "fileNone", inPlace := ["internal/abi.NoEscape", "internal/bytealg.MakeNoZero", "maps.clone"], unfollowed := true, recurses := true, plainKeys := false, apart := false }
def FileNoneSaid : Prop := fileNoneRow.holds Tryz.pinned (OpenSpec.ofChange fileNoneSpec)

/-- ITS FALSE NEIGHBOUR: 'it returns false'. Refute it at one input. -/
def fileNoneWrong : ChangeSpec := { name := "fileNone", fn := fun _ => fun
  | [d1, d2, d3] => { results := [.lit (.bool false)], args := [d1, d2, d3] }
  | _ => none }
def FileNoneWrongFalsely : Prop := fileNoneRow.holds Tryz.pinned (OpenSpec.ofChange fileNoneWrong)

/-- 'beguinagelaw18.FileAborts': WHATEVER THE INPUT: true; the input reads as it did. -/
def fileAbortsSpec : ChangeSpec := { name := "fileAborts", fn := fun _ => fun
  | [d1, d2] => { results := [.lit (.bool true)], args := [d1, d2] }
  | _ => none }
def fileAbortsRow : OpenClaim := { program := "ytoflbjncpliplaagreat", sum := "458d357b6d46cd8e9e1b6c35e695f643069bacf8468f79074938eb982ccdc10b", func := "beguinage/beguinagelaw18.FileAborts", spec := "fileAborts", inPlace := ["internal/abi.NoEscape", "internal/bytealg.MakeNoZero", "maps.clone"], unfollowed := true, recurses := true, plainKeys := false, apart := false }
def FileAbortsSaid : Prop := fileAbortsRow.holds Tryz.pinned (OpenSpec.ofChange fileAbortsSpec)

/-- ITS FALSE NEIGHBOUR: 'it returns false'. Refute it at one input. -/
def fileAbortsWrong : ChangeSpec := { name := "fileAborts", fn := fun _ => fun
  | [d1, d2] => { results := [.lit (.bool false)], args := [d1, d2] }
  | _ => none }
def FileAbortsWrongFalsely : Prop := fileAbortsRow.holds Tryz.pinned (OpenSpec.ofChange fileAbortsWrong)

/-- 'beguinagelaw18.FileApart': WHATEVER THE INPUT: true; the input reads as it did. -/
def fileApartSpec : ChangeSpec := { name := "fileApart", fn := fun _ => fun
  | [d1, d2] => { results := [.lit (.bool true)], args := [d1, d2] }
  | _ => none }
def fileApartRow : OpenClaim := { program := "ytoflbjncpliplaagreat", sum := "458d357b6d46cd8e9e1b6c35e695f643069bacf8468f79074938eb982ccdc10b", func := "beguinage/beguinagelaw18.FileApart", spec := "fileApart", inPlace := ["internal/abi.NoEscape", "internal/bytealg.MakeNoZero", "maps.clone"], unfollowed := true, recurses := true, plainKeys := false, apart := false }
def FileApartSaid : Prop := fileApartRow.holds Tryz.pinned (OpenSpec.ofChange fileApartSpec)

/-- ITS FALSE NEIGHBOUR: 'it returns false'. Refute it at one input. -/
def fileApartWrong : ChangeSpec := { name := "fileApart", fn := fun _ => fun
  | [d1, d2] => { results := [.lit (.bool false)], args := [d1, d2] }
  | _ => none }
def FileApartWrongFalsely : Prop := fileApartRow.holds Tryz.pinned (OpenSpec.ofChange fileApartWrong)

/-- 'beguinagelaw20.CleanEarns': WHATEVER THE INPUT: true; the input reads as it did. -/
def cleanEarnsSpec : ChangeSpec := { name := "cleanEarns", fn := fun _ => fun
  | [d1, d2] => { results := [.lit (.bool true)], args := [d1, d2] }
  | _ => none }
def cleanEarnsRow : OpenClaim := { program := "ytoflbjncpliplaagreat", sum := "458d357b6d46cd8e9e1b6c35e695f643069bacf8468f79074938eb982ccdc10b", func := "beguinage/beguinagelaw20.CleanEarns", spec := "cleanEarns", inPlace := ["internal/abi.NoEscape", "internal/bytealg.MakeNoZero", "maps.clone"], unfollowed := true, recurses := true, plainKeys := false, apart := false }
def CleanEarnsSaid : Prop := cleanEarnsRow.holds Tryz.pinned (OpenSpec.ofChange cleanEarnsSpec)

/-- ITS FALSE NEIGHBOUR: 'it returns false'. Refute it at one input. -/
def cleanEarnsWrong : ChangeSpec := { name := "cleanEarns", fn := fun _ => fun
  | [d1, d2] => { results := [.lit (.bool false)], args := [d1, d2] }
  | _ => none }
def CleanEarnsWrongFalsely : Prop := cleanEarnsRow.holds Tryz.pinned (OpenSpec.ofChange cleanEarnsWrong)

/-- 'beguinagelaw20.CleanNone': WHATEVER THE INPUT: true; the input reads as it did. -/
def cleanNoneSpec : ChangeSpec := { name := "cleanNone", fn := fun _ => fun
  | [d1, d2] => { results := [.lit (.bool true)], args := [d1, d2] }
  | _ => none }
def cleanNoneRow : OpenClaim := { program := "ytoflbjncpliplaagreat", sum := "458d357b6d46cd8e9e1b6c35e695f643069bacf8468f79074938eb982ccdc10b", func := "beguinage/beguinagelaw20.CleanNone", spec := "cleanNone", inPlace := ["internal/abi.NoEscape", "internal/bytealg.MakeNoZero", "maps.clone"], unfollowed := true, recurses := true, plainKeys := false, apart := false }
def CleanNoneSaid : Prop := cleanNoneRow.holds Tryz.pinned (OpenSpec.ofChange cleanNoneSpec)

/-- ITS FALSE NEIGHBOUR: 'it returns false'. Refute it at one input. -/
def cleanNoneWrong : ChangeSpec := { name := "cleanNone", fn := fun _ => fun
  | [d1, d2] => { results := [.lit (.bool false)], args := [d1, d2] }
  | _ => none }
def CleanNoneWrongFalsely : Prop := cleanNoneRow.holds Tryz.pinned (OpenSpec.ofChange cleanNoneWrong)

/-- 'beguinagelaw20.CleanFrees': WHATEVER THE INPUT: true; the input reads as it did. -/
def cleanFreesSpec : ChangeSpec := { name := "cleanFrees", fn := fun _ => fun
  | [d1, d2] => { results := [.lit (.bool true)], args := [d1, d2] }
  | _ => none }
def cleanFreesRow : OpenClaim := { program := "ytoflbjncpliplaagreat", sum := "458d357b6d46cd8e9e1b6c35e695f643069bacf8468f79074938eb982ccdc10b", func := "beguinage/beguinagelaw20.CleanFrees", spec := "cleanFrees", inPlace := ["internal/abi.NoEscape", "internal/bytealg.MakeNoZero", "maps.clone"], unfollowed := true, recurses := true, plainKeys := false, apart := false }
def CleanFreesSaid : Prop := cleanFreesRow.holds Tryz.pinned (OpenSpec.ofChange cleanFreesSpec)

/-- ITS FALSE NEIGHBOUR: 'it returns false'. Refute it at one input. -/
def cleanFreesWrong : ChangeSpec := { name := "cleanFrees", fn := fun _ => fun
  | [d1, d2] => { results := [.lit (.bool false)], args := [d1, d2] }
  | _ => none }
def CleanFreesWrongFalsely : Prop := cleanFreesRow.holds Tryz.pinned (OpenSpec.ofChange cleanFreesWrong)

/-- 'beguinagelaw20.CleanBudget': WHATEVER THE INPUT: true; the input reads as it did. -/
def cleanBudgetSpec : ChangeSpec := { name := "cleanBudget", fn := fun _ => fun
  | [d1, d2] => { results := [.lit (.bool true)], args := [d1, d2] }
  | _ => none }
def cleanBudgetRow : OpenClaim := { program := "ytoflbjncpliplaagreat", sum := "458d357b6d46cd8e9e1b6c35e695f643069bacf8468f79074938eb982ccdc10b", func := "beguinage/beguinagelaw20.CleanBudget", spec := "cleanBudget", inPlace := ["internal/abi.NoEscape", "internal/bytealg.MakeNoZero", "maps.clone"], unfollowed := true, recurses := true, plainKeys := false, apart := false }
def CleanBudgetSaid : Prop := cleanBudgetRow.holds Tryz.pinned (OpenSpec.ofChange cleanBudgetSpec)

/-- ITS FALSE NEIGHBOUR: 'it returns false'. Refute it at one input. -/
def cleanBudgetWrong : ChangeSpec := { name := "cleanBudget", fn := fun _ => fun
  | [d1, d2] => { results := [.lit (.bool false)], args := [d1, d2] }
  | _ => none }
def CleanBudgetWrongFalsely : Prop := cleanBudgetRow.holds Tryz.pinned (OpenSpec.ofChange cleanBudgetWrong)

/-- 'beguinagelaw18.FileMounts': WHATEVER THE INPUT: true; the input reads as it did. -/
def fileMountsSpec : ChangeSpec := { name := "fileMounts", fn := fun _ => fun
  | [d1, d2] => { results := [.lit (.bool true)], args := [d1, d2] }
  | _ => none }
def fileMountsRow : OpenClaim := { program := "ytoflbjncpliplaagreat", sum := "458d357b6d46cd8e9e1b6c35e695f643069bacf8468f79074938eb982ccdc10b", func := "beguinage/beguinagelaw18.FileMounts", spec := "fileMounts", inPlace := ["internal/abi.NoEscape", "internal/bytealg.MakeNoZero", "maps.clone"], unfollowed := true, recurses := true, plainKeys := false, apart := false }
def FileMountsSaid : Prop := fileMountsRow.holds Tryz.pinned (OpenSpec.ofChange fileMountsSpec)

/-- ITS FALSE NEIGHBOUR: 'it returns false'. Refute it at one input. -/
def fileMountsWrong : ChangeSpec := { name := "fileMounts", fn := fun _ => fun
  | [d1, d2] => { results := [.lit (.bool false)], args := [d1, d2] }
  | _ => none }
def FileMountsWrongFalsely : Prop := fileMountsRow.holds Tryz.pinned (OpenSpec.ofChange fileMountsWrong)

/-- 'beguinagelaw18.FileOld': WHATEVER THE INPUT: true; the input reads as it did. -/
def fileOldSpec : ChangeSpec := { name := "fileOld", fn := fun _ => fun
  | [d1, d2] => { results := [.lit (.bool true)], args := [d1, d2] }
  | _ => none }
def fileOldRow : OpenClaim := { program := "ytoflbjncpliplaagreat", sum := "458d357b6d46cd8e9e1b6c35e695f643069bacf8468f79074938eb982ccdc10b", func := "beguinage/beguinagelaw18.FileOld", spec := "fileOld", inPlace := ["internal/abi.NoEscape", "internal/bytealg.MakeNoZero", "maps.clone"], unfollowed := true, recurses := true, plainKeys := false, apart := false }
def FileOldSaid : Prop := fileOldRow.holds Tryz.pinned (OpenSpec.ofChange fileOldSpec)

/-- ITS FALSE NEIGHBOUR: 'it returns false'. Refute it at one input. -/
def fileOldWrong : ChangeSpec := { name := "fileOld", fn := fun _ => fun
  | [d1, d2] => { results := [.lit (.bool false)], args := [d1, d2] }
  | _ => none }
def FileOldWrongFalsely : Prop := fileOldRow.holds Tryz.pinned (OpenSpec.ofChange fileOldWrong)

/-- 'beguinagelaw18.FileCrashes': WHATEVER THE INPUT: true; the input reads as it did. -/
def fileCrashesSpec : ChangeSpec := { name := "fileCrashes", fn := fun _ => fun
  | [d1, d2, d3, d4] => { results := [.lit (.bool true)], args := [d1, d2, d3, d4] }
  | _ => none }
def fileCrashesRow : OpenClaim := { program := "ytoflbjncpliplaagreat", sum := "458d357b6d46cd8e9e1b6c35e695f643069bacf8468f79074938eb982ccdc10b", func := "beguinage/beguinagelaw18.FileCrashes", spec := "fileCrashes", inPlace := ["internal/abi.NoEscape", "internal/bytealg.MakeNoZero", "maps.clone"], unfollowed := true, recurses := true, plainKeys := false, apart := false }
def FileCrashesSaid : Prop := fileCrashesRow.holds Tryz.pinned (OpenSpec.ofChange fileCrashesSpec)

/-- ITS FALSE NEIGHBOUR: 'it returns false'. Refute it at one input. -/
def fileCrashesWrong : ChangeSpec := { name := "fileCrashes", fn := fun _ => fun
  | [d1, d2, d3, d4] => { results := [.lit (.bool false)], args := [d1, d2, d3, d4] }
  | _ => none }
def FileCrashesWrongFalsely : Prop := fileCrashesRow.holds Tryz.pinned (OpenSpec.ofChange fileCrashesWrong)

/-- 'beguinagelaw18.FileCleans': WHATEVER THE INPUT: true; the input reads as it did. -/
def fileCleansSpec : ChangeSpec := { name := "fileCleans", fn := fun _ => fun
  | [d1, d2] => { results := [.lit (.bool true)], args := [d1, d2] }
  | _ => none }
def fileCleansRow : OpenClaim := { program := "ytoflbjncpliplaagreat", sum := "458d357b6d46cd8e9e1b6c35e695f643069bacf8468f79074938eb982ccdc10b", func := "beguinage/beguinagelaw18.FileCleans", spec := "fileCleans", inPlace := ["internal/abi.NoEscape", "internal/bytealg.MakeNoZero", "maps.clone"], unfollowed := true, recurses := true, plainKeys := false, apart := false }
def FileCleansSaid : Prop := fileCleansRow.holds Tryz.pinned (OpenSpec.ofChange fileCleansSpec)

/-- ITS FALSE NEIGHBOUR: 'it returns false'. Refute it at one input. -/
def fileCleansWrong : ChangeSpec := { name := "fileCleans", fn := fun _ => fun
  | [d1, d2] => { results := [.lit (.bool false)], args := [d1, d2] }
  | _ => none }
def FileCleansWrongFalsely : Prop := fileCleansRow.holds Tryz.pinned (OpenSpec.ofChange fileCleansWrong)

/- THE SECOND FORM. 'bulk': how many values and letters a reading holds, each counted each time it is reached (what is shared counts as often as it is met; a slice's spare places count too). A statement '..UptoSaid' is the law's where the arguments, and the package variables that the reading takes, are together of bulk at most 1048576: NARROWER than '..Said'. Prove '..Said' where nothing that the law and all that it calls make is longer than what came in: it says more and counts as full. Else prove '..UptoSaid'. A law counts once. -/
mutual
def uptoBulk {H : Type} : DataW H → Nat
  | .lit (.string bytes) => bytes.length + 1
  | .lit _ => 1
  | .nil => 1
  | .ptr d => uptoBulk d + 1
  | .slice elems spare => uptoBulkAll elems + uptoBulkAll spare + 1
  | .agg parts => uptoBulkAll parts + 1
  | .iface _ d => uptoBulk d + 1
  | .map entries => uptoBulkEntries entries + 1
  | .held _ => 1
def uptoBulkAll {H : Type} : List (DataW H) → Nat
  | [] => 0
  | d :: r => uptoBulk d + uptoBulkAll r
def uptoBulkEntries {H : Type} : List (Lit × DataW H) → Nat
  | [] => 0
  | x :: r => uptoBulkEntry x + uptoBulkEntries r
def uptoBulkEntry {H : Type} : Lit × DataW H → Nat
  | (.string bytes, d) => bytes.length + uptoBulk d + 1
  | (_, d) => uptoBulk d + 1
 end
def uptoSmall : (H : Type) → List (DataW H) → Bool := fun _ ds => decide (uptoBulkAll ds ≤ 1048576)
def OpenSpec.upto (s : _root_.Go.ChangeSpec) : _root_.Go.OpenSpec := { _root_.Go.OpenSpec.ofChange s with cond := some uptoSmall }

/-- 'beguinagelaw18.FileFills', WHERE WHAT IT READS IS OF BULK AT MOST 1048576: true; the input reads as it did. -/
def fileFillsUptoRow : OpenClaim := { program := "ytoflbjncpliplaagreat", sum := "458d357b6d46cd8e9e1b6c35e695f643069bacf8468f79074938eb982ccdc10b", func := "beguinage/beguinagelaw18.FileFills", spec := "fileFills", inPlace := ["internal/abi.NoEscape", "internal/bytealg.MakeNoZero", "maps.clone"], unfollowed := true, recurses := true, plainKeys := false, apart := false, narrowed := true }
def FileFillsUptoSaid : Prop := fileFillsUptoRow.holds Tryz.pinned (OpenSpec.upto fileFillsSpec)

/-- 'beguinagelaw18.FilePlays', WHERE WHAT IT READS IS OF BULK AT MOST 1048576: true; the input reads as it did. -/
def filePlaysUptoRow : OpenClaim := { program := "ytoflbjncpliplaagreat", sum := "458d357b6d46cd8e9e1b6c35e695f643069bacf8468f79074938eb982ccdc10b", func := "beguinage/beguinagelaw18.FilePlays", spec := "filePlays", inPlace := ["internal/abi.NoEscape", "internal/bytealg.MakeNoZero", "maps.clone"], unfollowed := true, recurses := true, plainKeys := false, apart := false, narrowed := true }
def FilePlaysUptoSaid : Prop := filePlaysUptoRow.holds Tryz.pinned (OpenSpec.upto filePlaysSpec)

/-- 'beguinagelaw18.FileNone', WHERE WHAT IT READS IS OF BULK AT MOST 1048576: true; the input reads as it did. -/
def fileNoneUptoRow : OpenClaim := { program := "ytoflbjncpliplaagreat", sum := "458d357b6d46cd8e9e1b6c35e695f643069bacf8468f79074938eb982ccdc10b", func := "beguinage/beguinagelaw18.FileNone", spec := "fileNone", inPlace := ["internal/abi.NoEscape", "internal/bytealg.MakeNoZero", "maps.clone"], unfollowed := true, recurses := true, plainKeys := false, apart := false, narrowed := true }
def FileNoneUptoSaid : Prop := fileNoneUptoRow.holds Tryz.pinned (OpenSpec.upto fileNoneSpec)

/-- 'beguinagelaw18.FileAborts', WHERE WHAT IT READS IS OF BULK AT MOST 1048576: true; the input reads as it did. -/
def fileAbortsUptoRow : OpenClaim := { program := "ytoflbjncpliplaagreat", sum := "458d357b6d46cd8e9e1b6c35e695f643069bacf8468f79074938eb982ccdc10b", func := "beguinage/beguinagelaw18.FileAborts", spec := "fileAborts", inPlace := ["internal/abi.NoEscape", "internal/bytealg.MakeNoZero", "maps.clone"], unfollowed := true, recurses := true, plainKeys := false, apart := false, narrowed := true }
def FileAbortsUptoSaid : Prop := fileAbortsUptoRow.holds Tryz.pinned (OpenSpec.upto fileAbortsSpec)

/-- 'beguinagelaw18.FileApart', WHERE WHAT IT READS IS OF BULK AT MOST 1048576: true; the input reads as it did. -/
def fileApartUptoRow : OpenClaim := { program := "ytoflbjncpliplaagreat", sum := "458d357b6d46cd8e9e1b6c35e695f643069bacf8468f79074938eb982ccdc10b", func := "beguinage/beguinagelaw18.FileApart", spec := "fileApart", inPlace := ["internal/abi.NoEscape", "internal/bytealg.MakeNoZero", "maps.clone"], unfollowed := true, recurses := true, plainKeys := false, apart := false, narrowed := true }
def FileApartUptoSaid : Prop := fileApartUptoRow.holds Tryz.pinned (OpenSpec.upto fileApartSpec)

/-- 'beguinagelaw20.CleanEarns', WHERE WHAT IT READS IS OF BULK AT MOST 1048576: true; the input reads as it did. -/
def cleanEarnsUptoRow : OpenClaim := { program := "ytoflbjncpliplaagreat", sum := "458d357b6d46cd8e9e1b6c35e695f643069bacf8468f79074938eb982ccdc10b", func := "beguinage/beguinagelaw20.CleanEarns", spec := "cleanEarns", inPlace := ["internal/abi.NoEscape", "internal/bytealg.MakeNoZero", "maps.clone"], unfollowed := true, recurses := true, plainKeys := false, apart := false, narrowed := true }
def CleanEarnsUptoSaid : Prop := cleanEarnsUptoRow.holds Tryz.pinned (OpenSpec.upto cleanEarnsSpec)

/-- 'beguinagelaw20.CleanNone', WHERE WHAT IT READS IS OF BULK AT MOST 1048576: true; the input reads as it did. -/
def cleanNoneUptoRow : OpenClaim := { program := "ytoflbjncpliplaagreat", sum := "458d357b6d46cd8e9e1b6c35e695f643069bacf8468f79074938eb982ccdc10b", func := "beguinage/beguinagelaw20.CleanNone", spec := "cleanNone", inPlace := ["internal/abi.NoEscape", "internal/bytealg.MakeNoZero", "maps.clone"], unfollowed := true, recurses := true, plainKeys := false, apart := false, narrowed := true }
def CleanNoneUptoSaid : Prop := cleanNoneUptoRow.holds Tryz.pinned (OpenSpec.upto cleanNoneSpec)

/-- 'beguinagelaw20.CleanFrees', WHERE WHAT IT READS IS OF BULK AT MOST 1048576: true; the input reads as it did. -/
def cleanFreesUptoRow : OpenClaim := { program := "ytoflbjncpliplaagreat", sum := "458d357b6d46cd8e9e1b6c35e695f643069bacf8468f79074938eb982ccdc10b", func := "beguinage/beguinagelaw20.CleanFrees", spec := "cleanFrees", inPlace := ["internal/abi.NoEscape", "internal/bytealg.MakeNoZero", "maps.clone"], unfollowed := true, recurses := true, plainKeys := false, apart := false, narrowed := true }
def CleanFreesUptoSaid : Prop := cleanFreesUptoRow.holds Tryz.pinned (OpenSpec.upto cleanFreesSpec)

/-- 'beguinagelaw20.CleanBudget', WHERE WHAT IT READS IS OF BULK AT MOST 1048576: true; the input reads as it did. -/
def cleanBudgetUptoRow : OpenClaim := { program := "ytoflbjncpliplaagreat", sum := "458d357b6d46cd8e9e1b6c35e695f643069bacf8468f79074938eb982ccdc10b", func := "beguinage/beguinagelaw20.CleanBudget", spec := "cleanBudget", inPlace := ["internal/abi.NoEscape", "internal/bytealg.MakeNoZero", "maps.clone"], unfollowed := true, recurses := true, plainKeys := false, apart := false, narrowed := true }
def CleanBudgetUptoSaid : Prop := cleanBudgetUptoRow.holds Tryz.pinned (OpenSpec.upto cleanBudgetSpec)

/-- 'beguinagelaw18.FileMounts', WHERE WHAT IT READS IS OF BULK AT MOST 1048576: true; the input reads as it did. -/
def fileMountsUptoRow : OpenClaim := { program := "ytoflbjncpliplaagreat", sum := "458d357b6d46cd8e9e1b6c35e695f643069bacf8468f79074938eb982ccdc10b", func := "beguinage/beguinagelaw18.FileMounts", spec := "fileMounts", inPlace := ["internal/abi.NoEscape", "internal/bytealg.MakeNoZero", "maps.clone"], unfollowed := true, recurses := true, plainKeys := false, apart := false, narrowed := true }
def FileMountsUptoSaid : Prop := fileMountsUptoRow.holds Tryz.pinned (OpenSpec.upto fileMountsSpec)

/-- 'beguinagelaw18.FileOld', WHERE WHAT IT READS IS OF BULK AT MOST 1048576: true; the input reads as it did. -/
def fileOldUptoRow : OpenClaim := { program := "ytoflbjncpliplaagreat", sum := "458d357b6d46cd8e9e1b6c35e695f643069bacf8468f79074938eb982ccdc10b", func := "beguinage/beguinagelaw18.FileOld", spec := "fileOld", inPlace := ["internal/abi.NoEscape", "internal/bytealg.MakeNoZero", "maps.clone"], unfollowed := true, recurses := true, plainKeys := false, apart := false, narrowed := true }
def FileOldUptoSaid : Prop := fileOldUptoRow.holds Tryz.pinned (OpenSpec.upto fileOldSpec)

/-- 'beguinagelaw18.FileCrashes', WHERE WHAT IT READS IS OF BULK AT MOST 1048576: true; the input reads as it did. -/
def fileCrashesUptoRow : OpenClaim := { program := "ytoflbjncpliplaagreat", sum := "458d357b6d46cd8e9e1b6c35e695f643069bacf8468f79074938eb982ccdc10b", func := "beguinage/beguinagelaw18.FileCrashes", spec := "fileCrashes", inPlace := ["internal/abi.NoEscape", "internal/bytealg.MakeNoZero", "maps.clone"], unfollowed := true, recurses := true, plainKeys := false, apart := false, narrowed := true }
def FileCrashesUptoSaid : Prop := fileCrashesUptoRow.holds Tryz.pinned (OpenSpec.upto fileCrashesSpec)

/-- 'beguinagelaw18.FileCleans', WHERE WHAT IT READS IS OF BULK AT MOST 1048576: true; the input reads as it did. -/
def fileCleansUptoRow : OpenClaim := { program := "ytoflbjncpliplaagreat", sum := "458d357b6d46cd8e9e1b6c35e695f643069bacf8468f79074938eb982ccdc10b", func := "beguinage/beguinagelaw18.FileCleans", spec := "fileCleans", inPlace := ["internal/abi.NoEscape", "internal/bytealg.MakeNoZero", "maps.clone"], unfollowed := true, recurses := true, plainKeys := false, apart := false, narrowed := true }
def FileCleansUptoSaid : Prop := fileCleansUptoRow.holds Tryz.pinned (OpenSpec.upto fileCleansSpec)

end Rows
end Go.Proofs.YtoflbjncpliplaaGreat
