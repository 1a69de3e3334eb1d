/-
  No cell of these rows narrows 'for every input' (looked for: loops, veiled, ifaces, maps, wideKeys, modest, calm, conditions, laid).
  DERIVED. THE GIVEN ROWS OF THIS SEAT. 8 by the template 'for every input the law returns true; each argument reads behind the call as it read before'; 0 by the template 'total and deterministic' (their statements: YtpomanleabaafaaGreatTotals.lean).
  GIVEN WITH THE SEED: the statements are not yours to turn. If you find one false, say at which input.
  Laid BY PROGRAM, IN A SANDBOX (cutbox-rows.mjs): the forced cells as the released guide's own fill.sh prints them over the translation 36732b398870b6eb… (all of the seat's roots in one cut). By AI agents, Wed Nov 11 2026. No macro, syntax, notation, axiom, sorry.
-/
import Derived.Test.YtpomanleabaafaaGreatChecked
import GoSem.Claim
import GoSem.ClaimJoined
import GoSem.ClaimMapViews
import Derived.JoinedTies
import Derived.KernelRfl
namespace Go.Proofs.YtpomanleabaafaaGreat
/- THE CELL 'sum', in the pinned program and in every row, IS THE sha256 OF THE DUMP (.gsa) THAT YtpomanleabaafaaGreatProg.lean LOADS. Nothing in Lean hashes anything: it is a label: what it is worth is what the hold of that sum in a sandbox is worth. -/
noncomputable def Tryz.pinned : Pinned := { name := "ytpomanleabaafaagreat", sum := "36732b398870b6eb988592efca8267d334b7aba26c89cb1b9963e3d7bc5f096b", checked := Tryz.checked }
namespace Rows
def none {H : Type} : Left H := { results := [], args := [] }

/-- 'barrowlaw07.KeepForms': WHATEVER THE INPUT: true; the input reads as it did. -/
def keepFormsSpec : ChangeSpec := { name := "keepForms", fn := fun _ => fun
  | [d] => { results := [.lit (.bool true)], args := [d] }
  | _ => none }
def keepFormsRow : OpenClaim := { program := "ytpomanleabaafaagreat", sum := "36732b398870b6eb988592efca8267d334b7aba26c89cb1b9963e3d7bc5f096b", func := "barrow/barrowlaw07.KeepForms", spec := "keepForms", inPlace := ["internal/bytealg.abigen_runtime_cmpstring"], unfollowed := true, recurses := true, apart := false }
def KeepFormsSaid : Prop := keepFormsRow.holds Tryz.pinned (OpenSpec.ofChange keepFormsSpec)

/-- ITS FALSE NEIGHBOUR: 'it returns false'. Refute it at one input. -/
def keepFormsWrong : ChangeSpec := { name := "keepForms", fn := fun _ => fun
  | [d] => { results := [.lit (.bool false)], args := [d] }
  | _ => none }
def KeepFormsWrongFalsely : Prop := keepFormsRow.holds Tryz.pinned (OpenSpec.ofChange keepFormsWrong)

/-- 'barrowlaw07.KeepBars': WHATEVER THE INPUT: true; the input reads as it did. -/
def keepBarsSpec : ChangeSpec := { name := "keepBars", fn := fun _ => fun
  | [d] => { results := [.lit (.bool true)], args := [d] }
  | _ => none }
def keepBarsRow : OpenClaim := { program := "ytpomanleabaafaagreat", sum := "36732b398870b6eb988592efca8267d334b7aba26c89cb1b9963e3d7bc5f096b", func := "barrow/barrowlaw07.KeepBars", spec := "keepBars", inPlace := ["internal/bytealg.abigen_runtime_cmpstring"], unfollowed := true, recurses := true, apart := false }
def KeepBarsSaid : Prop := keepBarsRow.holds Tryz.pinned (OpenSpec.ofChange keepBarsSpec)

/-- ITS FALSE NEIGHBOUR: 'it returns false'. Refute it at one input. -/
def keepBarsWrong : ChangeSpec := { name := "keepBars", fn := fun _ => fun
  | [d] => { results := [.lit (.bool false)], args := [d] }
  | _ => none }
def KeepBarsWrongFalsely : Prop := keepBarsRow.holds Tryz.pinned (OpenSpec.ofChange keepBarsWrong)

/-- 'barrowlaw07.KeepFolds': WHATEVER THE INPUT: true; the input reads as it did. -/
def keepFoldsSpec : ChangeSpec := { name := "keepFolds", fn := fun _ => fun
  | [d] => { results := [.lit (.bool true)], args := [d] }
  | _ => none }
def keepFoldsRow : OpenClaim := { program := "ytpomanleabaafaagreat", sum := "36732b398870b6eb988592efca8267d334b7aba26c89cb1b9963e3d7bc5f096b", func := "barrow/barrowlaw07.KeepFolds", spec := "keepFolds", inPlace := ["internal/bytealg.abigen_runtime_cmpstring"], unfollowed := true, recurses := true, apart := false }
def KeepFoldsSaid : Prop := keepFoldsRow.holds Tryz.pinned (OpenSpec.ofChange keepFoldsSpec)

/-- ITS FALSE NEIGHBOUR: 'it returns false'. Refute it at one input. -/
def keepFoldsWrong : ChangeSpec := { name := "keepFolds", fn := fun _ => fun
  | [d] => { results := [.lit (.bool false)], args := [d] }
  | _ => none }
def KeepFoldsWrongFalsely : Prop := keepFoldsRow.holds Tryz.pinned (OpenSpec.ofChange keepFoldsWrong)

/-- 'barrowlaw07.KeepMerges': WHATEVER THE INPUT: true; the input reads as it did. -/
def keepMergesSpec : ChangeSpec := { name := "keepMerges", fn := fun _ => fun
  | [d] => { results := [.lit (.bool true)], args := [d] }
  | _ => none }
def keepMergesRow : OpenClaim := { program := "ytpomanleabaafaagreat", sum := "36732b398870b6eb988592efca8267d334b7aba26c89cb1b9963e3d7bc5f096b", func := "barrow/barrowlaw07.KeepMerges", spec := "keepMerges", inPlace := ["internal/bytealg.abigen_runtime_cmpstring"], unfollowed := true, recurses := true, apart := false }
def KeepMergesSaid : Prop := keepMergesRow.holds Tryz.pinned (OpenSpec.ofChange keepMergesSpec)

/-- ITS FALSE NEIGHBOUR: 'it returns false'. Refute it at one input. -/
def keepMergesWrong : ChangeSpec := { name := "keepMerges", fn := fun _ => fun
  | [d] => { results := [.lit (.bool false)], args := [d] }
  | _ => none }
def KeepMergesWrongFalsely : Prop := keepMergesRow.holds Tryz.pinned (OpenSpec.ofChange keepMergesWrong)

/-- 'barrowlaw07.KeepKernel': WHATEVER THE INPUT: true; the input reads as it did. -/
def keepKernelSpec : ChangeSpec := { name := "keepKernel", fn := fun _ => fun
  | [d] => { results := [.lit (.bool true)], args := [d] }
  | _ => none }
def keepKernelRow : OpenClaim := { program := "ytpomanleabaafaagreat", sum := "36732b398870b6eb988592efca8267d334b7aba26c89cb1b9963e3d7bc5f096b", func := "barrow/barrowlaw07.KeepKernel", spec := "keepKernel", inPlace := ["internal/bytealg.abigen_runtime_cmpstring"], unfollowed := true, recurses := true, apart := false }
def KeepKernelSaid : Prop := keepKernelRow.holds Tryz.pinned (OpenSpec.ofChange keepKernelSpec)

/-- ITS FALSE NEIGHBOUR: 'it returns false'. Refute it at one input. -/
def keepKernelWrong : ChangeSpec := { name := "keepKernel", fn := fun _ => fun
  | [d] => { results := [.lit (.bool false)], args := [d] }
  | _ => none }
def KeepKernelWrongFalsely : Prop := keepKernelRow.holds Tryz.pinned (OpenSpec.ofChange keepKernelWrong)

/-- 'barrowlaw07.KeepLists': WHATEVER THE INPUT: true; the input reads as it did. -/
def keepListsSpec : ChangeSpec := { name := "keepLists", fn := fun _ => fun
  | [d] => { results := [.lit (.bool true)], args := [d] }
  | _ => none }
def keepListsRow : OpenClaim := { program := "ytpomanleabaafaagreat", sum := "36732b398870b6eb988592efca8267d334b7aba26c89cb1b9963e3d7bc5f096b", func := "barrow/barrowlaw07.KeepLists", spec := "keepLists", inPlace := ["internal/bytealg.abigen_runtime_cmpstring"], unfollowed := true, recurses := true, apart := false }
def KeepListsSaid : Prop := keepListsRow.holds Tryz.pinned (OpenSpec.ofChange keepListsSpec)

/-- ITS FALSE NEIGHBOUR: 'it returns false'. Refute it at one input. -/
def keepListsWrong : ChangeSpec := { name := "keepLists", fn := fun _ => fun
  | [d] => { results := [.lit (.bool false)], args := [d] }
  | _ => none }
def KeepListsWrongFalsely : Prop := keepListsRow.holds Tryz.pinned (OpenSpec.ofChange keepListsWrong)

/-- 'barrowlaw07.KeepWaits': WHATEVER THE INPUT: true; the input reads as it did. -/
def keepWaitsSpec : ChangeSpec := { name := "keepWaits", fn := fun _ => fun
  | [d] => { results := [.lit (.bool true)], args := [d] }
  | _ => none }
def keepWaitsRow : OpenClaim := { program := "ytpomanleabaafaagreat", sum := "36732b398870b6eb988592efca8267d334b7aba26c89cb1b9963e3d7bc5f096b", func := "barrow/barrowlaw07.KeepWaits", spec := "keepWaits", inPlace := ["internal/bytealg.abigen_runtime_cmpstring"], unfollowed := true, recurses := true, apart := false }
def KeepWaitsSaid : Prop := keepWaitsRow.holds Tryz.pinned (OpenSpec.ofChange keepWaitsSpec)

/-- ITS FALSE NEIGHBOUR: 'it returns false'. Refute it at one input. -/
def keepWaitsWrong : ChangeSpec := { name := "keepWaits", fn := fun _ => fun
  | [d] => { results := [.lit (.bool false)], args := [d] }
  | _ => none }
def KeepWaitsWrongFalsely : Prop := keepWaitsRow.holds Tryz.pinned (OpenSpec.ofChange keepWaitsWrong)

/-- 'barrowlaw07.KeepMemory': WHATEVER THE INPUT: true; the input reads as it did. -/
def keepMemorySpec : ChangeSpec := { name := "keepMemory", fn := fun _ => fun
  | [d] => { results := [.lit (.bool true)], args := [d] }
  | _ => none }
def keepMemoryRow : OpenClaim := { program := "ytpomanleabaafaagreat", sum := "36732b398870b6eb988592efca8267d334b7aba26c89cb1b9963e3d7bc5f096b", func := "barrow/barrowlaw07.KeepMemory", spec := "keepMemory", inPlace := ["internal/bytealg.abigen_runtime_cmpstring"], unfollowed := true, recurses := true, apart := false }
def KeepMemorySaid : Prop := keepMemoryRow.holds Tryz.pinned (OpenSpec.ofChange keepMemorySpec)

/-- ITS FALSE NEIGHBOUR: 'it returns false'. Refute it at one input. -/
def keepMemoryWrong : ChangeSpec := { name := "keepMemory", fn := fun _ => fun
  | [d] => { results := [.lit (.bool false)], args := [d] }
  | _ => none }
def KeepMemoryWrongFalsely : Prop := keepMemoryRow.holds Tryz.pinned (OpenSpec.ofChange keepMemoryWrong)

/- THE SECOND FORM. 'bulk': how many values and letters a reading holds, each counted each time it is reached (what is shared counts as often as it is met; a slice's spare places count too). A statement '..UptoSaid' is the law's where the arguments, and the package variables that the reading takes, are together of bulk at most 1048576: NARROWER than '..Said'. Prove '..Said' where nothing that the law and all that it calls make is longer than what came in: it says more and counts as full. Else prove '..UptoSaid'. A law counts once. -/
mutual
def uptoBulk {H : Type} : DataW H → Nat
  | .lit (.string bytes) => bytes.length + 1
  | .lit _ => 1
  | .nil => 1
  | .ptr d => uptoBulk d + 1
  | .slice elems spare => uptoBulkAll elems + uptoBulkAll spare + 1
  | .agg parts => uptoBulkAll parts + 1
  | .iface _ d => uptoBulk d + 1
  | .map entries => uptoBulkEntries entries + 1
  | .held _ => 1
def uptoBulkAll {H : Type} : List (DataW H) → Nat
  | [] => 0
  | d :: r => uptoBulk d + uptoBulkAll r
def uptoBulkEntries {H : Type} : List (Lit × DataW H) → Nat
  | [] => 0
  | x :: r => uptoBulkEntry x + uptoBulkEntries r
def uptoBulkEntry {H : Type} : Lit × DataW H → Nat
  | (.string bytes, d) => bytes.length + uptoBulk d + 1
  | (_, d) => uptoBulk d + 1
 end
def uptoSmall : (H : Type) → List (DataW H) → Bool := fun _ ds => decide (uptoBulkAll ds ≤ 1048576)
def OpenSpec.upto (s : _root_.Go.ChangeSpec) : _root_.Go.OpenSpec := { _root_.Go.OpenSpec.ofChange s with cond := some uptoSmall }

/-- 'barrowlaw07.KeepForms', WHERE WHAT IT READS IS OF BULK AT MOST 1048576: true; the input reads as it did. -/
def keepFormsUptoRow : OpenClaim := { program := "ytpomanleabaafaagreat", sum := "36732b398870b6eb988592efca8267d334b7aba26c89cb1b9963e3d7bc5f096b", func := "barrow/barrowlaw07.KeepForms", spec := "keepForms", inPlace := ["internal/bytealg.abigen_runtime_cmpstring"], unfollowed := true, recurses := true, apart := false, narrowed := true }
def KeepFormsUptoSaid : Prop := keepFormsUptoRow.holds Tryz.pinned (OpenSpec.upto keepFormsSpec)

/-- 'barrowlaw07.KeepBars', WHERE WHAT IT READS IS OF BULK AT MOST 1048576: true; the input reads as it did. -/
def keepBarsUptoRow : OpenClaim := { program := "ytpomanleabaafaagreat", sum := "36732b398870b6eb988592efca8267d334b7aba26c89cb1b9963e3d7bc5f096b", func := "barrow/barrowlaw07.KeepBars", spec := "keepBars", inPlace := ["internal/bytealg.abigen_runtime_cmpstring"], unfollowed := true, recurses := true, apart := false, narrowed := true }
def KeepBarsUptoSaid : Prop := keepBarsUptoRow.holds Tryz.pinned (OpenSpec.upto keepBarsSpec)

/-- 'barrowlaw07.KeepFolds', WHERE WHAT IT READS IS OF BULK AT MOST 1048576: true; the input reads as it did. -/
def keepFoldsUptoRow : OpenClaim := { program := "ytpomanleabaafaagreat", sum := "36732b398870b6eb988592efca8267d334b7aba26c89cb1b9963e3d7bc5f096b", func := "barrow/barrowlaw07.KeepFolds", spec := "keepFolds", inPlace := ["internal/bytealg.abigen_runtime_cmpstring"], unfollowed := true, recurses := true, apart := false, narrowed := true }
def KeepFoldsUptoSaid : Prop := keepFoldsUptoRow.holds Tryz.pinned (OpenSpec.upto keepFoldsSpec)

/-- 'barrowlaw07.KeepMerges', WHERE WHAT IT READS IS OF BULK AT MOST 1048576: true; the input reads as it did. -/
def keepMergesUptoRow : OpenClaim := { program := "ytpomanleabaafaagreat", sum := "36732b398870b6eb988592efca8267d334b7aba26c89cb1b9963e3d7bc5f096b", func := "barrow/barrowlaw07.KeepMerges", spec := "keepMerges", inPlace := ["internal/bytealg.abigen_runtime_cmpstring"], unfollowed := true, recurses := true, apart := false, narrowed := true }
def KeepMergesUptoSaid : Prop := keepMergesUptoRow.holds Tryz.pinned (OpenSpec.upto keepMergesSpec)

/-- 'barrowlaw07.KeepKernel', WHERE WHAT IT READS IS OF BULK AT MOST 1048576: true; the input reads as it did. -/
def keepKernelUptoRow : OpenClaim := { program := "ytpomanleabaafaagreat", sum := "36732b398870b6eb988592efca8267d334b7aba26c89cb1b9963e3d7bc5f096b", func := "barrow/barrowlaw07.KeepKernel", spec := "keepKernel", inPlace := ["internal/bytealg.abigen_runtime_cmpstring"], unfollowed := true, recurses := true, apart := false, narrowed := true }
def KeepKernelUptoSaid : Prop := keepKernelUptoRow.holds Tryz.pinned (OpenSpec.upto keepKernelSpec)

/-- 'barrowlaw07.KeepLists', WHERE WHAT IT READS IS OF BULK AT MOST 1048576: true; the input reads as it did. -/
def keepListsUptoRow : OpenClaim := { program := "ytpomanleabaafaagreat", sum := "36732b398870b6eb988592efca8267d334b7aba26c89cb1b9963e3d7bc5f096b", func := "barrow/barrowlaw07.KeepLists", spec := "keepLists", inPlace := ["internal/bytealg.abigen_runtime_cmpstring"], unfollowed := true, recurses := true, apart := false, narrowed := true }
def KeepListsUptoSaid : Prop := keepListsUptoRow.holds Tryz.pinned (OpenSpec.upto keepListsSpec)

/-- 'barrowlaw07.KeepWaits', WHERE WHAT IT READS IS OF BULK AT MOST 1048576: true; the input reads as it did. -/
def keepWaitsUptoRow : OpenClaim := { program := "ytpomanleabaafaagreat", sum := "36732b398870b6eb988592efca8267d334b7aba26c89cb1b9963e3d7bc5f096b", func := "barrow/barrowlaw07.KeepWaits", spec := "keepWaits", inPlace := ["internal/bytealg.abigen_runtime_cmpstring"], unfollowed := true, recurses := true, apart := false, narrowed := true }
def KeepWaitsUptoSaid : Prop := keepWaitsUptoRow.holds Tryz.pinned (OpenSpec.upto keepWaitsSpec)

/-- 'barrowlaw07.KeepMemory', WHERE WHAT IT READS IS OF BULK AT MOST 1048576: true; the input reads as it did. -/
def keepMemoryUptoRow : OpenClaim := { program := "ytpomanleabaafaagreat", sum := "36732b398870b6eb988592efca8267d334b7aba26c89cb1b9963e3d7bc5f096b", func := "barrow/barrowlaw07.KeepMemory", spec := "keepMemory", inPlace := ["internal/bytealg.abigen_runtime_cmpstring"], unfollowed := true, recurses := true, apart := false, narrowed := true }
def KeepMemoryUptoSaid : Prop := keepMemoryUptoRow.holds Tryz.pinned (OpenSpec.upto keepMemorySpec)

end Rows
end Go.Proofs.YtpomanleabaafaaGreat
