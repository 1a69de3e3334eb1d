/-
  No cell of these rows narrows 'for every input' (looked for: loops, veiled, ifaces, maps, wideKeys, modest, calm, conditions, laid).
  DERIVED. THE GIVEN ROWS OF THIS SEAT. 6 by the template 'for every input the law returns true; each argument reads behind the call as it read before'; 0 by the template 'total and deterministic' (their statements: YtkionmommpgcmaaGreatTotals.lean).
  GIVEN WITH THE SEED: the statements are not yours to turn. If you find one false, say at which input.
  Laid BY PROGRAM, IN A SANDBOX (cutbox-rows.mjs): the forced cells as the released guide's own fill.sh prints them over the translation f714dfb19651a1eb… (all of the seat's roots in one cut). By AI agents, Wed Nov 11 2026. No macro, syntax, notation, axiom, sorry.
-/
import Derived.Test.YtkionmommpgcmaaGreatChecked
import GoSem.Claim
import GoSem.ClaimJoined
import GoSem.ClaimMapViews
import Derived.JoinedTies
import Derived.KernelRfl
namespace Go.Proofs.YtkionmommpgcmaaGreat
/- THE CELL 'sum', in the pinned program and in every row, IS THE sha256 OF THE DUMP (.gsa) THAT YtkionmommpgcmaaGreatProg.lean LOADS. Nothing in Lean hashes anything: it is a label: what it is worth is what the hold of that sum in a sandbox is worth. -/
noncomputable def Tryz.pinned : Pinned := { name := "ytkionmommpgcmaagreat", sum := "f714dfb19651a1eb18001a7d6f2adb153ebe0cb58d49743d451b32388aab3749", checked := Tryz.checked }
namespace Rows
def none {H : Type} : Left H := { results := [], args := [] }

/-- 'barrowlaw09.PackReads': WHATEVER THE INPUT: true; the input reads as it did. -/
def packReadsSpec : ChangeSpec := { name := "packReads", fn := fun _ => fun
  | [d] => { results := [.lit (.bool true)], args := [d] }
  | _ => none }
def packReadsRow : OpenClaim := { program := "ytkionmommpgcmaagreat", sum := "f714dfb19651a1eb18001a7d6f2adb153ebe0cb58d49743d451b32388aab3749", func := "barrow/barrowlaw09.PackReads", spec := "packReads", inPlace := ["internal/bytealg.abigen_runtime_cmpstring"], unfollowed := true, recurses := true, apart := false }
def PackReadsSaid : Prop := packReadsRow.holds Tryz.pinned (OpenSpec.ofChange packReadsSpec)

/-- ITS FALSE NEIGHBOUR: 'it returns false'. Refute it at one input. -/
def packReadsWrong : ChangeSpec := { name := "packReads", fn := fun _ => fun
  | [d] => { results := [.lit (.bool false)], args := [d] }
  | _ => none }
def PackReadsWrongFalsely : Prop := packReadsRow.holds Tryz.pinned (OpenSpec.ofChange packReadsWrong)

/-- 'barrowlaw09.PackSizes': WHATEVER THE INPUT: true; the input reads as it did. -/
def packSizesSpec : ChangeSpec := { name := "packSizes", fn := fun _ => fun
  | [d] => { results := [.lit (.bool true)], args := [d] }
  | _ => none }
def packSizesRow : OpenClaim := { program := "ytkionmommpgcmaagreat", sum := "f714dfb19651a1eb18001a7d6f2adb153ebe0cb58d49743d451b32388aab3749", func := "barrow/barrowlaw09.PackSizes", spec := "packSizes", inPlace := ["internal/bytealg.abigen_runtime_cmpstring"], unfollowed := true, recurses := true, apart := false }
def PackSizesSaid : Prop := packSizesRow.holds Tryz.pinned (OpenSpec.ofChange packSizesSpec)

/-- ITS FALSE NEIGHBOUR: 'it returns false'. Refute it at one input. -/
def packSizesWrong : ChangeSpec := { name := "packSizes", fn := fun _ => fun
  | [d] => { results := [.lit (.bool false)], args := [d] }
  | _ => none }
def PackSizesWrongFalsely : Prop := packSizesRow.holds Tryz.pinned (OpenSpec.ofChange packSizesWrong)

/-- 'barrowlaw09.PackWrites': WHATEVER THE INPUT: true; the input reads as it did. -/
def packWritesSpec : ChangeSpec := { name := "packWrites", fn := fun _ => fun
  | [d] => { results := [.lit (.bool true)], args := [d] }
  | _ => none }
def packWritesRow : OpenClaim := { program := "ytkionmommpgcmaagreat", sum := "f714dfb19651a1eb18001a7d6f2adb153ebe0cb58d49743d451b32388aab3749", func := "barrow/barrowlaw09.PackWrites", spec := "packWrites", inPlace := ["internal/bytealg.abigen_runtime_cmpstring"], unfollowed := true, recurses := true, apart := false }
def PackWritesSaid : Prop := packWritesRow.holds Tryz.pinned (OpenSpec.ofChange packWritesSpec)

/-- ITS FALSE NEIGHBOUR: 'it returns false'. Refute it at one input. -/
def packWritesWrong : ChangeSpec := { name := "packWrites", fn := fun _ => fun
  | [d] => { results := [.lit (.bool false)], args := [d] }
  | _ => none }
def PackWritesWrongFalsely : Prop := packWritesRow.holds Tryz.pinned (OpenSpec.ofChange packWritesWrong)

/-- 'barrowlaw09.PackBack': WHATEVER THE INPUT: true; the input reads as it did. -/
def packBackSpec : ChangeSpec := { name := "packBack", fn := fun _ => fun
  | [d] => { results := [.lit (.bool true)], args := [d] }
  | _ => none }
def packBackRow : OpenClaim := { program := "ytkionmommpgcmaagreat", sum := "f714dfb19651a1eb18001a7d6f2adb153ebe0cb58d49743d451b32388aab3749", func := "barrow/barrowlaw09.PackBack", spec := "packBack", inPlace := ["internal/bytealg.abigen_runtime_cmpstring"], unfollowed := true, recurses := true, apart := false }
def PackBackSaid : Prop := packBackRow.holds Tryz.pinned (OpenSpec.ofChange packBackSpec)

/-- ITS FALSE NEIGHBOUR: 'it returns false'. Refute it at one input. -/
def packBackWrong : ChangeSpec := { name := "packBack", fn := fun _ => fun
  | [d] => { results := [.lit (.bool false)], args := [d] }
  | _ => none }
def PackBackWrongFalsely : Prop := packBackRow.holds Tryz.pinned (OpenSpec.ofChange packBackWrong)

/-- 'barrowlaw09.PackWhole': WHATEVER THE INPUT: true; the input reads as it did. -/
def packWholeSpec : ChangeSpec := { name := "packWhole", fn := fun _ => fun
  | [d] => { results := [.lit (.bool true)], args := [d] }
  | _ => none }
def packWholeRow : OpenClaim := { program := "ytkionmommpgcmaagreat", sum := "f714dfb19651a1eb18001a7d6f2adb153ebe0cb58d49743d451b32388aab3749", func := "barrow/barrowlaw09.PackWhole", spec := "packWhole", inPlace := ["internal/bytealg.abigen_runtime_cmpstring"], unfollowed := true, recurses := true, apart := false }
def PackWholeSaid : Prop := packWholeRow.holds Tryz.pinned (OpenSpec.ofChange packWholeSpec)

/-- ITS FALSE NEIGHBOUR: 'it returns false'. Refute it at one input. -/
def packWholeWrong : ChangeSpec := { name := "packWhole", fn := fun _ => fun
  | [d] => { results := [.lit (.bool false)], args := [d] }
  | _ => none }
def PackWholeWrongFalsely : Prop := packWholeRow.holds Tryz.pinned (OpenSpec.ofChange packWholeWrong)

/-- 'barrowlaw09.PackMemory': WHATEVER THE INPUT: true; the input reads as it did. -/
def packMemorySpec : ChangeSpec := { name := "packMemory", fn := fun _ => fun
  | [d] => { results := [.lit (.bool true)], args := [d] }
  | _ => none }
def packMemoryRow : OpenClaim := { program := "ytkionmommpgcmaagreat", sum := "f714dfb19651a1eb18001a7d6f2adb153ebe0cb58d49743d451b32388aab3749", func := "barrow/barrowlaw09.PackMemory", spec := "packMemory", inPlace := ["internal/bytealg.abigen_runtime_cmpstring"], unfollowed := true, recurses := true, apart := false }
def PackMemorySaid : Prop := packMemoryRow.holds Tryz.pinned (OpenSpec.ofChange packMemorySpec)

/-- ITS FALSE NEIGHBOUR: 'it returns false'. Refute it at one input. -/
def packMemoryWrong : ChangeSpec := { name := "packMemory", fn := fun _ => fun
  | [d] => { results := [.lit (.bool false)], args := [d] }
  | _ => none }
def PackMemoryWrongFalsely : Prop := packMemoryRow.holds Tryz.pinned (OpenSpec.ofChange packMemoryWrong)

/- THE SECOND FORM. 'bulk': how many values and letters a reading holds, each counted each time it is reached (what is shared counts as often as it is met; a slice's spare places count too). A statement '..UptoSaid' is the law's where the arguments, and the package variables that the reading takes, are together of bulk at most 1048576: NARROWER than '..Said'. Prove '..Said' where nothing that the law and all that it calls make is longer than what came in: it says more and counts as full. Else prove '..UptoSaid'. A law counts once. -/
mutual
def uptoBulk {H : Type} : DataW H → Nat
  | .lit (.string bytes) => bytes.length + 1
  | .lit _ => 1
  | .nil => 1
  | .ptr d => uptoBulk d + 1
  | .slice elems spare => uptoBulkAll elems + uptoBulkAll spare + 1
  | .agg parts => uptoBulkAll parts + 1
  | .iface _ d => uptoBulk d + 1
  | .map entries => uptoBulkEntries entries + 1
  | .held _ => 1
def uptoBulkAll {H : Type} : List (DataW H) → Nat
  | [] => 0
  | d :: r => uptoBulk d + uptoBulkAll r
def uptoBulkEntries {H : Type} : List (Lit × DataW H) → Nat
  | [] => 0
  | x :: r => uptoBulkEntry x + uptoBulkEntries r
def uptoBulkEntry {H : Type} : Lit × DataW H → Nat
  | (.string bytes, d) => bytes.length + uptoBulk d + 1
  | (_, d) => uptoBulk d + 1
 end
def uptoSmall : (H : Type) → List (DataW H) → Bool := fun _ ds => decide (uptoBulkAll ds ≤ 1048576)
def OpenSpec.upto (s : _root_.Go.ChangeSpec) : _root_.Go.OpenSpec := { _root_.Go.OpenSpec.ofChange s with cond := some uptoSmall }

/-- 'barrowlaw09.PackReads', WHERE WHAT IT READS IS OF BULK AT MOST 1048576: true; the input reads as it did. -/
def packReadsUptoRow : OpenClaim := { program := "ytkionmommpgcmaagreat", sum := "f714dfb19651a1eb18001a7d6f2adb153ebe0cb58d49743d451b32388aab3749", func := "barrow/barrowlaw09.PackReads", spec := "packReads", inPlace := ["internal/bytealg.abigen_runtime_cmpstring"], unfollowed := true, recurses := true, apart := false, narrowed := true }
def PackReadsUptoSaid : Prop := packReadsUptoRow.holds Tryz.pinned (OpenSpec.upto packReadsSpec)

/-- 'barrowlaw09.PackSizes', WHERE WHAT IT READS IS OF BULK AT MOST 1048576: true; the input reads as it did. -/
def packSizesUptoRow : OpenClaim := { program := "ytkionmommpgcmaagreat", sum := "f714dfb19651a1eb18001a7d6f2adb153ebe0cb58d49743d451b32388aab3749", func := "barrow/barrowlaw09.PackSizes", spec := "packSizes", inPlace := ["internal/bytealg.abigen_runtime_cmpstring"], unfollowed := true, recurses := true, apart := false, narrowed := true }
def PackSizesUptoSaid : Prop := packSizesUptoRow.holds Tryz.pinned (OpenSpec.upto packSizesSpec)

/-- 'barrowlaw09.PackWrites', WHERE WHAT IT READS IS OF BULK AT MOST 1048576: true; the input reads as it did. -/
def packWritesUptoRow : OpenClaim := { program := "ytkionmommpgcmaagreat", sum := "f714dfb19651a1eb18001a7d6f2adb153ebe0cb58d49743d451b32388aab3749", func := "barrow/barrowlaw09.PackWrites", spec := "packWrites", inPlace := ["internal/bytealg.abigen_runtime_cmpstring"], unfollowed := true, recurses := true, apart := false, narrowed := true }
def PackWritesUptoSaid : Prop := packWritesUptoRow.holds Tryz.pinned (OpenSpec.upto packWritesSpec)

/-- 'barrowlaw09.PackBack', WHERE WHAT IT READS IS OF BULK AT MOST 1048576: true; the input reads as it did. -/
def packBackUptoRow : OpenClaim := { program := "ytkionmommpgcmaagreat", sum := "f714dfb19651a1eb18001a7d6f2adb153ebe0cb58d49743d451b32388aab3749", func := "barrow/barrowlaw09.PackBack", spec := "packBack", inPlace := ["internal/bytealg.abigen_runtime_cmpstring"], unfollowed := true, recurses := true, apart := false, narrowed := true }
def PackBackUptoSaid : Prop := packBackUptoRow.holds Tryz.pinned (OpenSpec.upto packBackSpec)

/-- 'barrowlaw09.PackWhole', WHERE WHAT IT READS IS OF BULK AT MOST 1048576: true; the input reads as it did. -/
def packWholeUptoRow : OpenClaim := { program := "ytkionmommpgcmaagreat", sum := "f714dfb19651a1eb18001a7d6f2adb153ebe0cb58d49743d451b32388aab3749", func := "barrow/barrowlaw09.PackWhole", spec := "packWhole", inPlace := ["internal/bytealg.abigen_runtime_cmpstring"], unfollowed := true, recurses := true, apart := false, narrowed := true }
def PackWholeUptoSaid : Prop := packWholeUptoRow.holds Tryz.pinned (OpenSpec.upto packWholeSpec)

/-- 'barrowlaw09.PackMemory', WHERE WHAT IT READS IS OF BULK AT MOST 1048576: true; the input reads as it did. -/
def packMemoryUptoRow : OpenClaim := { program := "ytkionmommpgcmaagreat", sum := "f714dfb19651a1eb18001a7d6f2adb153ebe0cb58d49743d451b32388aab3749", func := "barrow/barrowlaw09.PackMemory", spec := "packMemory", inPlace := ["internal/bytealg.abigen_runtime_cmpstring"], unfollowed := true, recurses := true, apart := false, narrowed := true }
def PackMemoryUptoSaid : Prop := packMemoryUptoRow.holds Tryz.pinned (OpenSpec.upto packMemorySpec)

end Rows
end Go.Proofs.YtkionmommpgcmaaGreat
