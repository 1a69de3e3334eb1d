/-
  No cell of these rows narrows 'for every input' (looked for: loops, veiled, ifaces, maps, wideKeys, modest, calm, conditions, laid).
  DERIVED. THE GIVEN ROWS OF THIS SEAT. 8 by the template 'for every input the law returns true; each argument reads behind the call as it read before'; 0 by the template 'total and deterministic' (their statements: YtdmfjkhbodbgoaaTotals.lean).
  GIVEN WITH THE SEED: the statements are not yours to turn. If you find one false, say at which input.
  Laid BY PROGRAM, IN A SANDBOX (cutbox-rows.mjs): the forced cells as the released guide's own fill.sh prints them over the translation e81da770972be942… (all of the seat's roots in one cut). By AI agents, Wed Nov 11 2026. No macro, syntax, notation, axiom, sorry.
-/
import Derived.Test.YtdmfjkhbodbgoaaChecked
import GoSem.Claim
import GoSem.ClaimJoined
import GoSem.ClaimMapViews
import Derived.JoinedTies
import Derived.KernelRfl
namespace Go.Proofs.Ytdmfjkhbodbgoaa
/- THE CELL 'sum', in the pinned program and in every row, IS THE sha256 OF THE DUMP (.gsa) THAT YtdmfjkhbodbgoaaProg.lean LOADS. Nothing in Lean hashes anything: it is a label: what it is worth is what the hold of that sum in a sandbox is worth. -/
noncomputable def Try.pinned : Pinned := { name := "ytdmfjkhbodbgoaa", sum := "e81da770972be9424e4a7454eb2d2254490b3335f518d0fa0a68c67b828387cc", checked := Try.checked }
namespace Rows
def none {H : Type} : Left H := { results := [], args := [] }

/-- 'barrowlaw04.PastNexts': WHATEVER THE INPUT: true; the input reads as it did. -/
def pastNextsSpec : ChangeSpec := { name := "pastNexts", fn := fun _ => fun
  | [d] => { results := [.lit (.bool true)], args := [d] }
  | _ => none }
def pastNextsRow : OpenClaim := { program := "ytdmfjkhbodbgoaa", sum := "e81da770972be9424e4a7454eb2d2254490b3335f518d0fa0a68c67b828387cc", func := "barrow/barrowlaw04.PastNexts", spec := "pastNexts", unfollowed := true, recurses := true, apart := false }
def PastNextsSaid : Prop := pastNextsRow.holds Try.pinned (OpenSpec.ofChange pastNextsSpec)

/-- ITS FALSE NEIGHBOUR: 'it returns false'. Refute it at one input. -/
def pastNextsWrong : ChangeSpec := { name := "pastNexts", fn := fun _ => fun
  | [d] => { results := [.lit (.bool false)], args := [d] }
  | _ => none }
def PastNextsWrongFalsely : Prop := pastNextsRow.holds Try.pinned (OpenSpec.ofChange pastNextsWrong)

/-- 'barrowlaw04.PastGrows': WHATEVER THE INPUT: true; the input reads as it did. -/
def pastGrowsSpec : ChangeSpec := { name := "pastGrows", fn := fun _ => fun
  | [d] => { results := [.lit (.bool true)], args := [d] }
  | _ => none }
def pastGrowsRow : OpenClaim := { program := "ytdmfjkhbodbgoaa", sum := "e81da770972be9424e4a7454eb2d2254490b3335f518d0fa0a68c67b828387cc", func := "barrow/barrowlaw04.PastGrows", spec := "pastGrows", unfollowed := true, recurses := true, apart := false }
def PastGrowsSaid : Prop := pastGrowsRow.holds Try.pinned (OpenSpec.ofChange pastGrowsSpec)

/-- ITS FALSE NEIGHBOUR: 'it returns false'. Refute it at one input. -/
def pastGrowsWrong : ChangeSpec := { name := "pastGrows", fn := fun _ => fun
  | [d] => { results := [.lit (.bool false)], args := [d] }
  | _ => none }
def PastGrowsWrongFalsely : Prop := pastGrowsRow.holds Try.pinned (OpenSpec.ofChange pastGrowsWrong)

/-- 'barrowlaw04.PastLattice': WHATEVER THE INPUT: true; the input reads as it did. -/
def pastLatticeSpec : ChangeSpec := { name := "pastLattice", fn := fun _ => fun
  | [d] => { results := [.lit (.bool true)], args := [d] }
  | _ => none }
def pastLatticeRow : OpenClaim := { program := "ytdmfjkhbodbgoaa", sum := "e81da770972be9424e4a7454eb2d2254490b3335f518d0fa0a68c67b828387cc", func := "barrow/barrowlaw04.PastLattice", spec := "pastLattice", unfollowed := true, recurses := true, apart := false }
def PastLatticeSaid : Prop := pastLatticeRow.holds Try.pinned (OpenSpec.ofChange pastLatticeSpec)

/-- ITS FALSE NEIGHBOUR: 'it returns false'. Refute it at one input. -/
def pastLatticeWrong : ChangeSpec := { name := "pastLattice", fn := fun _ => fun
  | [d] => { results := [.lit (.bool false)], args := [d] }
  | _ => none }
def PastLatticeWrongFalsely : Prop := pastLatticeRow.holds Try.pinned (OpenSpec.ofChange pastLatticeWrong)

/-- 'barrowlaw04.PastPoints': WHATEVER THE INPUT: true; the input reads as it did. -/
def pastPointsSpec : ChangeSpec := { name := "pastPoints", fn := fun _ => fun
  | [d] => { results := [.lit (.bool true)], args := [d] }
  | _ => none }
def pastPointsRow : OpenClaim := { program := "ytdmfjkhbodbgoaa", sum := "e81da770972be9424e4a7454eb2d2254490b3335f518d0fa0a68c67b828387cc", func := "barrow/barrowlaw04.PastPoints", spec := "pastPoints", unfollowed := true, recurses := true, apart := false }
def PastPointsSaid : Prop := pastPointsRow.holds Try.pinned (OpenSpec.ofChange pastPointsSpec)

/-- ITS FALSE NEIGHBOUR: 'it returns false'. Refute it at one input. -/
def pastPointsWrong : ChangeSpec := { name := "pastPoints", fn := fun _ => fun
  | [d] => { results := [.lit (.bool false)], args := [d] }
  | _ => none }
def PastPointsWrongFalsely : Prop := pastPointsRow.holds Try.pinned (OpenSpec.ofChange pastPointsWrong)

/-- 'barrowlaw04.PastOrders': WHATEVER THE INPUT: true; the input reads as it did. -/
def pastOrdersSpec : ChangeSpec := { name := "pastOrders", fn := fun _ => fun
  | [d] => { results := [.lit (.bool true)], args := [d] }
  | _ => none }
def pastOrdersRow : OpenClaim := { program := "ytdmfjkhbodbgoaa", sum := "e81da770972be9424e4a7454eb2d2254490b3335f518d0fa0a68c67b828387cc", func := "barrow/barrowlaw04.PastOrders", spec := "pastOrders", unfollowed := true, recurses := true, apart := false }
def PastOrdersSaid : Prop := pastOrdersRow.holds Try.pinned (OpenSpec.ofChange pastOrdersSpec)

/-- ITS FALSE NEIGHBOUR: 'it returns false'. Refute it at one input. -/
def pastOrdersWrong : ChangeSpec := { name := "pastOrders", fn := fun _ => fun
  | [d] => { results := [.lit (.bool false)], args := [d] }
  | _ => none }
def PastOrdersWrongFalsely : Prop := pastOrdersRow.holds Try.pinned (OpenSpec.ofChange pastOrdersWrong)

/-- 'barrowlaw04.PastForms': WHATEVER THE INPUT: true; the input reads as it did. -/
def pastFormsSpec : ChangeSpec := { name := "pastForms", fn := fun _ => fun
  | [d] => { results := [.lit (.bool true)], args := [d] }
  | _ => none }
def pastFormsRow : OpenClaim := { program := "ytdmfjkhbodbgoaa", sum := "e81da770972be9424e4a7454eb2d2254490b3335f518d0fa0a68c67b828387cc", func := "barrow/barrowlaw04.PastForms", spec := "pastForms", unfollowed := true, recurses := true, apart := false }
def PastFormsSaid : Prop := pastFormsRow.holds Try.pinned (OpenSpec.ofChange pastFormsSpec)

/-- ITS FALSE NEIGHBOUR: 'it returns false'. Refute it at one input. -/
def pastFormsWrong : ChangeSpec := { name := "pastForms", fn := fun _ => fun
  | [d] => { results := [.lit (.bool false)], args := [d] }
  | _ => none }
def PastFormsWrongFalsely : Prop := pastFormsRow.holds Try.pinned (OpenSpec.ofChange pastFormsWrong)

/-- 'barrowlaw04.PastSets': WHATEVER THE INPUT: true; the input reads as it did. -/
def pastSetsSpec : ChangeSpec := { name := "pastSets", fn := fun _ => fun
  | [d] => { results := [.lit (.bool true)], args := [d] }
  | _ => none }
def pastSetsRow : OpenClaim := { program := "ytdmfjkhbodbgoaa", sum := "e81da770972be9424e4a7454eb2d2254490b3335f518d0fa0a68c67b828387cc", func := "barrow/barrowlaw04.PastSets", spec := "pastSets", unfollowed := true, recurses := true, apart := false }
def PastSetsSaid : Prop := pastSetsRow.holds Try.pinned (OpenSpec.ofChange pastSetsSpec)

/-- ITS FALSE NEIGHBOUR: 'it returns false'. Refute it at one input. -/
def pastSetsWrong : ChangeSpec := { name := "pastSets", fn := fun _ => fun
  | [d] => { results := [.lit (.bool false)], args := [d] }
  | _ => none }
def PastSetsWrongFalsely : Prop := pastSetsRow.holds Try.pinned (OpenSpec.ofChange pastSetsWrong)

/-- 'barrowtop.BarrowPastsAreSets': WHATEVER THE INPUT: true; the input reads as it did. -/
def barrowPastsAreSetsSpec : ChangeSpec := { name := "barrowPastsAreSets", fn := fun _ => fun
  | [d] => { results := [.lit (.bool true)], args := [d] }
  | _ => none }
def barrowPastsAreSetsRow : OpenClaim := { program := "ytdmfjkhbodbgoaa", sum := "e81da770972be9424e4a7454eb2d2254490b3335f518d0fa0a68c67b828387cc", func := "barrow/barrowtop.BarrowPastsAreSets", spec := "barrowPastsAreSets", unfollowed := true, recurses := true, apart := false }
def BarrowPastsAreSetsSaid : Prop := barrowPastsAreSetsRow.holds Try.pinned (OpenSpec.ofChange barrowPastsAreSetsSpec)

/-- ITS FALSE NEIGHBOUR: 'it returns false'. Refute it at one input. -/
def barrowPastsAreSetsWrong : ChangeSpec := { name := "barrowPastsAreSets", fn := fun _ => fun
  | [d] => { results := [.lit (.bool false)], args := [d] }
  | _ => none }
def BarrowPastsAreSetsWrongFalsely : Prop := barrowPastsAreSetsRow.holds Try.pinned (OpenSpec.ofChange barrowPastsAreSetsWrong)

/- THE SECOND FORM. 'bulk': how many values and letters a reading holds, each counted each time it is reached (what is shared counts as often as it is met; a slice's spare places count too). A statement '..UptoSaid' is the law's where the arguments, and the package variables that the reading takes, are together of bulk at most 1048576: NARROWER than '..Said'. Prove '..Said' where nothing that the law and all that it calls make is longer than what came in: it says more and counts as full. Else prove '..UptoSaid'. A law counts once. -/
mutual
def uptoBulk {H : Type} : DataW H → Nat
  | .lit (.string bytes) => bytes.length + 1
  | .lit _ => 1
  | .nil => 1
  | .ptr d => uptoBulk d + 1
  | .slice elems spare => uptoBulkAll elems + uptoBulkAll spare + 1
  | .agg parts => uptoBulkAll parts + 1
  | .iface _ d => uptoBulk d + 1
  | .map entries => uptoBulkEntries entries + 1
  | .held _ => 1
def uptoBulkAll {H : Type} : List (DataW H) → Nat
  | [] => 0
  | d :: r => uptoBulk d + uptoBulkAll r
def uptoBulkEntries {H : Type} : List (Lit × DataW H) → Nat
  | [] => 0
  | x :: r => uptoBulkEntry x + uptoBulkEntries r
def uptoBulkEntry {H : Type} : Lit × DataW H → Nat
  | (.string bytes, d) => bytes.length + uptoBulk d + 1
  | (_, d) => uptoBulk d + 1
 end
def uptoSmall : (H : Type) → List (DataW H) → Bool := fun _ ds => decide (uptoBulkAll ds ≤ 1048576)
def OpenSpec.upto (s : _root_.Go.ChangeSpec) : _root_.Go.OpenSpec := { _root_.Go.OpenSpec.ofChange s with cond := some uptoSmall }

/-- 'barrowlaw04.PastNexts', WHERE WHAT IT READS IS OF BULK AT MOST 1048576: true; the input reads as it did. -/
def pastNextsUptoRow : OpenClaim := { program := "ytdmfjkhbodbgoaa", sum := "e81da770972be9424e4a7454eb2d2254490b3335f518d0fa0a68c67b828387cc", func := "barrow/barrowlaw04.PastNexts", spec := "pastNexts", unfollowed := true, recurses := true, apart := false, narrowed := true }
def PastNextsUptoSaid : Prop := pastNextsUptoRow.holds Try.pinned (OpenSpec.upto pastNextsSpec)

/-- 'barrowlaw04.PastGrows', WHERE WHAT IT READS IS OF BULK AT MOST 1048576: true; the input reads as it did. -/
def pastGrowsUptoRow : OpenClaim := { program := "ytdmfjkhbodbgoaa", sum := "e81da770972be9424e4a7454eb2d2254490b3335f518d0fa0a68c67b828387cc", func := "barrow/barrowlaw04.PastGrows", spec := "pastGrows", unfollowed := true, recurses := true, apart := false, narrowed := true }
def PastGrowsUptoSaid : Prop := pastGrowsUptoRow.holds Try.pinned (OpenSpec.upto pastGrowsSpec)

/-- 'barrowlaw04.PastLattice', WHERE WHAT IT READS IS OF BULK AT MOST 1048576: true; the input reads as it did. -/
def pastLatticeUptoRow : OpenClaim := { program := "ytdmfjkhbodbgoaa", sum := "e81da770972be9424e4a7454eb2d2254490b3335f518d0fa0a68c67b828387cc", func := "barrow/barrowlaw04.PastLattice", spec := "pastLattice", unfollowed := true, recurses := true, apart := false, narrowed := true }
def PastLatticeUptoSaid : Prop := pastLatticeUptoRow.holds Try.pinned (OpenSpec.upto pastLatticeSpec)

/-- 'barrowlaw04.PastPoints', WHERE WHAT IT READS IS OF BULK AT MOST 1048576: true; the input reads as it did. -/
def pastPointsUptoRow : OpenClaim := { program := "ytdmfjkhbodbgoaa", sum := "e81da770972be9424e4a7454eb2d2254490b3335f518d0fa0a68c67b828387cc", func := "barrow/barrowlaw04.PastPoints", spec := "pastPoints", unfollowed := true, recurses := true, apart := false, narrowed := true }
def PastPointsUptoSaid : Prop := pastPointsUptoRow.holds Try.pinned (OpenSpec.upto pastPointsSpec)

/-- 'barrowlaw04.PastOrders', WHERE WHAT IT READS IS OF BULK AT MOST 1048576: true; the input reads as it did. -/
def pastOrdersUptoRow : OpenClaim := { program := "ytdmfjkhbodbgoaa", sum := "e81da770972be9424e4a7454eb2d2254490b3335f518d0fa0a68c67b828387cc", func := "barrow/barrowlaw04.PastOrders", spec := "pastOrders", unfollowed := true, recurses := true, apart := false, narrowed := true }
def PastOrdersUptoSaid : Prop := pastOrdersUptoRow.holds Try.pinned (OpenSpec.upto pastOrdersSpec)

/-- 'barrowlaw04.PastForms', WHERE WHAT IT READS IS OF BULK AT MOST 1048576: true; the input reads as it did. -/
def pastFormsUptoRow : OpenClaim := { program := "ytdmfjkhbodbgoaa", sum := "e81da770972be9424e4a7454eb2d2254490b3335f518d0fa0a68c67b828387cc", func := "barrow/barrowlaw04.PastForms", spec := "pastForms", unfollowed := true, recurses := true, apart := false, narrowed := true }
def PastFormsUptoSaid : Prop := pastFormsUptoRow.holds Try.pinned (OpenSpec.upto pastFormsSpec)

/-- 'barrowlaw04.PastSets', WHERE WHAT IT READS IS OF BULK AT MOST 1048576: true; the input reads as it did. -/
def pastSetsUptoRow : OpenClaim := { program := "ytdmfjkhbodbgoaa", sum := "e81da770972be9424e4a7454eb2d2254490b3335f518d0fa0a68c67b828387cc", func := "barrow/barrowlaw04.PastSets", spec := "pastSets", unfollowed := true, recurses := true, apart := false, narrowed := true }
def PastSetsUptoSaid : Prop := pastSetsUptoRow.holds Try.pinned (OpenSpec.upto pastSetsSpec)

/-- 'barrowtop.BarrowPastsAreSets', WHERE WHAT IT READS IS OF BULK AT MOST 1048576: true; the input reads as it did. -/
def barrowPastsAreSetsUptoRow : OpenClaim := { program := "ytdmfjkhbodbgoaa", sum := "e81da770972be9424e4a7454eb2d2254490b3335f518d0fa0a68c67b828387cc", func := "barrow/barrowtop.BarrowPastsAreSets", spec := "barrowPastsAreSets", unfollowed := true, recurses := true, apart := false, narrowed := true }
def BarrowPastsAreSetsUptoSaid : Prop := barrowPastsAreSetsUptoRow.holds Try.pinned (OpenSpec.upto barrowPastsAreSetsSpec)

end Rows
end Go.Proofs.Ytdmfjkhbodbgoaa
