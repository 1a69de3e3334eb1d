/-
  No cell of these rows narrows 'for every input' (looked for: loops, veiled, ifaces, maps, wideKeys, modest, calm, conditions, laid).
  DERIVED. THE GIVEN ROWS OF THIS SEAT. 10 by the template 'for every input the law returns true; each argument reads behind the call as it read before'; 0 by the template 'total and deterministic' (their statements: YthejoeiecenjkaaGreatTotals.lean).
  GIVEN WITH THE SEED: the statements are not yours to turn. If you find one false, say at which input.
  Laid BY PROGRAM, IN A SANDBOX (cutbox-rows.mjs): the forced cells as the released guide's own fill.sh prints them over the translation 860b6d42727f22fb… (all of the seat's roots in one cut). By AI agents, Wed Nov 11 2026. No macro, syntax, notation, axiom, sorry.
-/
import Derived.Test.YthejoeiecenjkaaGreatChecked
import GoSem.Claim
import GoSem.ClaimJoined
import GoSem.ClaimMapViews
import Derived.JoinedTies
import Derived.KernelRfl
namespace Go.Proofs.YthejoeiecenjkaaGreat
/- THE CELL 'sum', in the pinned program and in every row, IS THE sha256 OF THE DUMP (.gsa) THAT YthejoeiecenjkaaGreatProg.lean LOADS. Nothing in Lean hashes anything: it is a label: what it is worth is what the hold of that sum in a sandbox is worth. -/
noncomputable def Tryz.pinned : Pinned := { name := "ythejoeiecenjkaagreat", sum := "860b6d42727f22fb5a1f5bf2a40e1973454d96e0b6e4dfa02e78eaf5ccca029b", checked := Tryz.checked }
namespace Rows
def none {H : Type} : Left H := { results := [], args := [] }

/-- 'barrowlaw11.SwotEvents': WHATEVER THE INPUT: true; the input reads as it did. -/
def swotEventsSpec : ChangeSpec := { name := "swotEvents", fn := fun _ => fun
  | [d] => { results := [.lit (.bool true)], args := [d] }
  | _ => none }
def swotEventsRow : OpenClaim := { program := "ythejoeiecenjkaagreat", sum := "860b6d42727f22fb5a1f5bf2a40e1973454d96e0b6e4dfa02e78eaf5ccca029b", func := "barrow/barrowlaw11.SwotEvents", spec := "swotEvents", inPlace := ["internal/bytealg.abigen_runtime_cmpstring"], unfollowed := true, recurses := true, plainKeys := false, apart := false }
def SwotEventsSaid : Prop := swotEventsRow.holds Tryz.pinned (OpenSpec.ofChange swotEventsSpec)

/-- ITS FALSE NEIGHBOUR: 'it returns false'. Refute it at one input. -/
def swotEventsWrong : ChangeSpec := { name := "swotEvents", fn := fun _ => fun
  | [d] => { results := [.lit (.bool false)], args := [d] }
  | _ => none }
def SwotEventsWrongFalsely : Prop := swotEventsRow.holds Tryz.pinned (OpenSpec.ofChange swotEventsWrong)

/-- 'barrowlaw11.SwotChecks': WHATEVER THE INPUT: true; the input reads as it did. -/
def swotChecksSpec : ChangeSpec := { name := "swotChecks", fn := fun _ => fun
  | [d1, d2] => { results := [.lit (.bool true)], args := [d1, d2] }
  | _ => none }
def swotChecksRow : OpenClaim := { program := "ythejoeiecenjkaagreat", sum := "860b6d42727f22fb5a1f5bf2a40e1973454d96e0b6e4dfa02e78eaf5ccca029b", func := "barrow/barrowlaw11.SwotChecks", spec := "swotChecks", inPlace := ["internal/bytealg.abigen_runtime_cmpstring"], unfollowed := true, recurses := true, plainKeys := false, apart := false }
def SwotChecksSaid : Prop := swotChecksRow.holds Tryz.pinned (OpenSpec.ofChange swotChecksSpec)

/-- ITS FALSE NEIGHBOUR: 'it returns false'. Refute it at one input. -/
def swotChecksWrong : ChangeSpec := { name := "swotChecks", fn := fun _ => fun
  | [d1, d2] => { results := [.lit (.bool false)], args := [d1, d2] }
  | _ => none }
def SwotChecksWrongFalsely : Prop := swotChecksRow.holds Tryz.pinned (OpenSpec.ofChange swotChecksWrong)

/-- 'barrowlaw11.SwotLattice': WHATEVER THE INPUT: true; the input reads as it did. -/
def swotLatticeSpec : ChangeSpec := { name := "swotLattice", fn := fun _ => fun
  | [d1, d2, d3] => { results := [.lit (.bool true)], args := [d1, d2, d3] }
  | _ => none }
def swotLatticeRow : OpenClaim := { program := "ythejoeiecenjkaagreat", sum := "860b6d42727f22fb5a1f5bf2a40e1973454d96e0b6e4dfa02e78eaf5ccca029b", func := "barrow/barrowlaw11.SwotLattice", spec := "swotLattice", inPlace := ["internal/bytealg.abigen_runtime_cmpstring"], unfollowed := true, recurses := true, plainKeys := false, apart := false }
def SwotLatticeSaid : Prop := swotLatticeRow.holds Tryz.pinned (OpenSpec.ofChange swotLatticeSpec)

/-- ITS FALSE NEIGHBOUR: 'it returns false'. Refute it at one input. -/
def swotLatticeWrong : ChangeSpec := { name := "swotLattice", fn := fun _ => fun
  | [d1, d2, d3] => { results := [.lit (.bool false)], args := [d1, d2, d3] }
  | _ => none }
def SwotLatticeWrongFalsely : Prop := swotLatticeRow.holds Tryz.pinned (OpenSpec.ofChange swotLatticeWrong)

/-- 'barrowlaw11.SwotKnows': WHATEVER THE INPUT: true; the input reads as it did. -/
def swotKnowsSpec : ChangeSpec := { name := "swotKnows", fn := fun _ => fun
  | [d1, d2, d3] => { results := [.lit (.bool true)], args := [d1, d2, d3] }
  | _ => none }
def swotKnowsRow : OpenClaim := { program := "ythejoeiecenjkaagreat", sum := "860b6d42727f22fb5a1f5bf2a40e1973454d96e0b6e4dfa02e78eaf5ccca029b", func := "barrow/barrowlaw11.SwotKnows", spec := "swotKnows", inPlace := ["internal/bytealg.abigen_runtime_cmpstring"], unfollowed := true, recurses := true, plainKeys := false, apart := false }
def SwotKnowsSaid : Prop := swotKnowsRow.holds Tryz.pinned (OpenSpec.ofChange swotKnowsSpec)

/-- ITS FALSE NEIGHBOUR: 'it returns false'. Refute it at one input. -/
def swotKnowsWrong : ChangeSpec := { name := "swotKnows", fn := fun _ => fun
  | [d1, d2, d3] => { results := [.lit (.bool false)], args := [d1, d2, d3] }
  | _ => none }
def SwotKnowsWrongFalsely : Prop := swotKnowsRow.holds Tryz.pinned (OpenSpec.ofChange swotKnowsWrong)

/-- 'barrowlaw11.SwotNoReturn': WHATEVER THE INPUT: true; the input reads as it did. -/
def swotNoReturnSpec : ChangeSpec := { name := "swotNoReturn", fn := fun _ => fun
  | [d1, d2] => { results := [.lit (.bool true)], args := [d1, d2] }
  | _ => none }
def swotNoReturnRow : OpenClaim := { program := "ythejoeiecenjkaagreat", sum := "860b6d42727f22fb5a1f5bf2a40e1973454d96e0b6e4dfa02e78eaf5ccca029b", func := "barrow/barrowlaw11.SwotNoReturn", spec := "swotNoReturn", inPlace := ["internal/bytealg.abigen_runtime_cmpstring"], unfollowed := true, recurses := true, plainKeys := false, apart := false }
def SwotNoReturnSaid : Prop := swotNoReturnRow.holds Tryz.pinned (OpenSpec.ofChange swotNoReturnSpec)

/-- ITS FALSE NEIGHBOUR: 'it returns false'. Refute it at one input. -/
def swotNoReturnWrong : ChangeSpec := { name := "swotNoReturn", fn := fun _ => fun
  | [d1, d2] => { results := [.lit (.bool false)], args := [d1, d2] }
  | _ => none }
def SwotNoReturnWrongFalsely : Prop := swotNoReturnRow.holds Tryz.pinned (OpenSpec.ofChange swotNoReturnWrong)

/-- 'barrowlaw11.SwotJoins': WHATEVER THE INPUT: true; the input reads as it did. -/
def swotJoinsSpec : ChangeSpec := { name := "swotJoins", fn := fun _ => fun
  | [d1, d2] => { results := [.lit (.bool true)], args := [d1, d2] }
  | _ => none }
def swotJoinsRow : OpenClaim := { program := "ythejoeiecenjkaagreat", sum := "860b6d42727f22fb5a1f5bf2a40e1973454d96e0b6e4dfa02e78eaf5ccca029b", func := "barrow/barrowlaw11.SwotJoins", spec := "swotJoins", inPlace := ["internal/bytealg.abigen_runtime_cmpstring"], unfollowed := true, recurses := true, plainKeys := false, apart := false }
def SwotJoinsSaid : Prop := swotJoinsRow.holds Tryz.pinned (OpenSpec.ofChange swotJoinsSpec)

/-- ITS FALSE NEIGHBOUR: 'it returns false'. Refute it at one input. -/
def swotJoinsWrong : ChangeSpec := { name := "swotJoins", fn := fun _ => fun
  | [d1, d2] => { results := [.lit (.bool false)], args := [d1, d2] }
  | _ => none }
def SwotJoinsWrongFalsely : Prop := swotJoinsRow.holds Tryz.pinned (OpenSpec.ofChange swotJoinsWrong)

/-- 'barrowlaw11.SwotOrders': WHATEVER THE INPUT: true; the input reads as it did. -/
def swotOrdersSpec : ChangeSpec := { name := "swotOrders", fn := fun _ => fun
  | [d1, d2, d3] => { results := [.lit (.bool true)], args := [d1, d2, d3] }
  | _ => none }
def swotOrdersRow : OpenClaim := { program := "ythejoeiecenjkaagreat", sum := "860b6d42727f22fb5a1f5bf2a40e1973454d96e0b6e4dfa02e78eaf5ccca029b", func := "barrow/barrowlaw11.SwotOrders", spec := "swotOrders", inPlace := ["internal/bytealg.abigen_runtime_cmpstring"], unfollowed := true, recurses := true, plainKeys := false, apart := false }
def SwotOrdersSaid : Prop := swotOrdersRow.holds Tryz.pinned (OpenSpec.ofChange swotOrdersSpec)

/-- ITS FALSE NEIGHBOUR: 'it returns false'. Refute it at one input. -/
def swotOrdersWrong : ChangeSpec := { name := "swotOrders", fn := fun _ => fun
  | [d1, d2, d3] => { results := [.lit (.bool false)], args := [d1, d2, d3] }
  | _ => none }
def SwotOrdersWrongFalsely : Prop := swotOrdersRow.holds Tryz.pinned (OpenSpec.ofChange swotOrdersWrong)

/-- 'barrowlaw11.SwotHistory': WHATEVER THE INPUT: true; the input reads as it did. -/
def swotHistorySpec : ChangeSpec := { name := "swotHistory", fn := fun _ => fun
  | [d] => { results := [.lit (.bool true)], args := [d] }
  | _ => none }
def swotHistoryRow : OpenClaim := { program := "ythejoeiecenjkaagreat", sum := "860b6d42727f22fb5a1f5bf2a40e1973454d96e0b6e4dfa02e78eaf5ccca029b", func := "barrow/barrowlaw11.SwotHistory", spec := "swotHistory", inPlace := ["internal/bytealg.abigen_runtime_cmpstring"], unfollowed := true, recurses := true, plainKeys := false, apart := false }
def SwotHistorySaid : Prop := swotHistoryRow.holds Tryz.pinned (OpenSpec.ofChange swotHistorySpec)

/-- ITS FALSE NEIGHBOUR: 'it returns false'. Refute it at one input. -/
def swotHistoryWrong : ChangeSpec := { name := "swotHistory", fn := fun _ => fun
  | [d] => { results := [.lit (.bool false)], args := [d] }
  | _ => none }
def SwotHistoryWrongFalsely : Prop := swotHistoryRow.holds Tryz.pinned (OpenSpec.ofChange swotHistoryWrong)

/-- 'barrowlaw11.SwotAnyOrder': WHATEVER THE INPUT: true; the input reads as it did. -/
def swotAnyOrderSpec : ChangeSpec := { name := "swotAnyOrder", fn := fun _ => fun
  | [d1, d2] => { results := [.lit (.bool true)], args := [d1, d2] }
  | _ => none }
def swotAnyOrderRow : OpenClaim := { program := "ythejoeiecenjkaagreat", sum := "860b6d42727f22fb5a1f5bf2a40e1973454d96e0b6e4dfa02e78eaf5ccca029b", func := "barrow/barrowlaw11.SwotAnyOrder", spec := "swotAnyOrder", inPlace := ["internal/bytealg.abigen_runtime_cmpstring"], unfollowed := true, recurses := true, plainKeys := false, apart := false }
def SwotAnyOrderSaid : Prop := swotAnyOrderRow.holds Tryz.pinned (OpenSpec.ofChange swotAnyOrderSpec)

/-- ITS FALSE NEIGHBOUR: 'it returns false'. Refute it at one input. -/
def swotAnyOrderWrong : ChangeSpec := { name := "swotAnyOrder", fn := fun _ => fun
  | [d1, d2] => { results := [.lit (.bool false)], args := [d1, d2] }
  | _ => none }
def SwotAnyOrderWrongFalsely : Prop := swotAnyOrderRow.holds Tryz.pinned (OpenSpec.ofChange swotAnyOrderWrong)

/-- 'barrowlaw11.SwotApart': WHATEVER THE INPUT: true; the input reads as it did. -/
def swotApartSpec : ChangeSpec := { name := "swotApart", fn := fun _ => fun
  | [d1, d2, d3] => { results := [.lit (.bool true)], args := [d1, d2, d3] }
  | _ => none }
def swotApartRow : OpenClaim := { program := "ythejoeiecenjkaagreat", sum := "860b6d42727f22fb5a1f5bf2a40e1973454d96e0b6e4dfa02e78eaf5ccca029b", func := "barrow/barrowlaw11.SwotApart", spec := "swotApart", inPlace := ["internal/bytealg.abigen_runtime_cmpstring"], unfollowed := true, recurses := true, plainKeys := false, apart := false }
def SwotApartSaid : Prop := swotApartRow.holds Tryz.pinned (OpenSpec.ofChange swotApartSpec)

/-- ITS FALSE NEIGHBOUR: 'it returns false'. Refute it at one input. -/
def swotApartWrong : ChangeSpec := { name := "swotApart", fn := fun _ => fun
  | [d1, d2, d3] => { results := [.lit (.bool false)], args := [d1, d2, d3] }
  | _ => none }
def SwotApartWrongFalsely : Prop := swotApartRow.holds Tryz.pinned (OpenSpec.ofChange swotApartWrong)

/- THE SECOND FORM. 'bulk': how many values and letters a reading holds, each counted each time it is reached (what is shared counts as often as it is met; a slice's spare places count too). A statement '..UptoSaid' is the law's where the arguments, and the package variables that the reading takes, are together of bulk at most 1048576: NARROWER than '..Said'. Prove '..Said' where nothing that the law and all that it calls make is longer than what came in: it says more and counts as full. Else prove '..UptoSaid'. A law counts once. -/
mutual
def uptoBulk {H : Type} : DataW H → Nat
  | .lit (.string bytes) => bytes.length + 1
  | .lit _ => 1
  | .nil => 1
  | .ptr d => uptoBulk d + 1
  | .slice elems spare => uptoBulkAll elems + uptoBulkAll spare + 1
  | .agg parts => uptoBulkAll parts + 1
  | .iface _ d => uptoBulk d + 1
  | .map entries => uptoBulkEntries entries + 1
  | .held _ => 1
def uptoBulkAll {H : Type} : List (DataW H) → Nat
  | [] => 0
  | d :: r => uptoBulk d + uptoBulkAll r
def uptoBulkEntries {H : Type} : List (Lit × DataW H) → Nat
  | [] => 0
  | x :: r => uptoBulkEntry x + uptoBulkEntries r
def uptoBulkEntry {H : Type} : Lit × DataW H → Nat
  | (.string bytes, d) => bytes.length + uptoBulk d + 1
  | (_, d) => uptoBulk d + 1
 end
def uptoSmall : (H : Type) → List (DataW H) → Bool := fun _ ds => decide (uptoBulkAll ds ≤ 1048576)
def OpenSpec.upto (s : _root_.Go.ChangeSpec) : _root_.Go.OpenSpec := { _root_.Go.OpenSpec.ofChange s with cond := some uptoSmall }

/-- 'barrowlaw11.SwotEvents', WHERE WHAT IT READS IS OF BULK AT MOST 1048576: true; the input reads as it did. -/
def swotEventsUptoRow : OpenClaim := { program := "ythejoeiecenjkaagreat", sum := "860b6d42727f22fb5a1f5bf2a40e1973454d96e0b6e4dfa02e78eaf5ccca029b", func := "barrow/barrowlaw11.SwotEvents", spec := "swotEvents", inPlace := ["internal/bytealg.abigen_runtime_cmpstring"], unfollowed := true, recurses := true, plainKeys := false, apart := false, narrowed := true }
def SwotEventsUptoSaid : Prop := swotEventsUptoRow.holds Tryz.pinned (OpenSpec.upto swotEventsSpec)

/-- 'barrowlaw11.SwotChecks', WHERE WHAT IT READS IS OF BULK AT MOST 1048576: true; the input reads as it did. -/
def swotChecksUptoRow : OpenClaim := { program := "ythejoeiecenjkaagreat", sum := "860b6d42727f22fb5a1f5bf2a40e1973454d96e0b6e4dfa02e78eaf5ccca029b", func := "barrow/barrowlaw11.SwotChecks", spec := "swotChecks", inPlace := ["internal/bytealg.abigen_runtime_cmpstring"], unfollowed := true, recurses := true, plainKeys := false, apart := false, narrowed := true }
def SwotChecksUptoSaid : Prop := swotChecksUptoRow.holds Tryz.pinned (OpenSpec.upto swotChecksSpec)

/-- 'barrowlaw11.SwotLattice', WHERE WHAT IT READS IS OF BULK AT MOST 1048576: true; the input reads as it did. -/
def swotLatticeUptoRow : OpenClaim := { program := "ythejoeiecenjkaagreat", sum := "860b6d42727f22fb5a1f5bf2a40e1973454d96e0b6e4dfa02e78eaf5ccca029b", func := "barrow/barrowlaw11.SwotLattice", spec := "swotLattice", inPlace := ["internal/bytealg.abigen_runtime_cmpstring"], unfollowed := true, recurses := true, plainKeys := false, apart := false, narrowed := true }
def SwotLatticeUptoSaid : Prop := swotLatticeUptoRow.holds Tryz.pinned (OpenSpec.upto swotLatticeSpec)

/-- 'barrowlaw11.SwotKnows', WHERE WHAT IT READS IS OF BULK AT MOST 1048576: true; the input reads as it did. -/
def swotKnowsUptoRow : OpenClaim := { program := "ythejoeiecenjkaagreat", sum := "860b6d42727f22fb5a1f5bf2a40e1973454d96e0b6e4dfa02e78eaf5ccca029b", func := "barrow/barrowlaw11.SwotKnows", spec := "swotKnows", inPlace := ["internal/bytealg.abigen_runtime_cmpstring"], unfollowed := true, recurses := true, plainKeys := false, apart := false, narrowed := true }
def SwotKnowsUptoSaid : Prop := swotKnowsUptoRow.holds Tryz.pinned (OpenSpec.upto swotKnowsSpec)

/-- 'barrowlaw11.SwotNoReturn', WHERE WHAT IT READS IS OF BULK AT MOST 1048576: true; the input reads as it did. -/
def swotNoReturnUptoRow : OpenClaim := { program := "ythejoeiecenjkaagreat", sum := "860b6d42727f22fb5a1f5bf2a40e1973454d96e0b6e4dfa02e78eaf5ccca029b", func := "barrow/barrowlaw11.SwotNoReturn", spec := "swotNoReturn", inPlace := ["internal/bytealg.abigen_runtime_cmpstring"], unfollowed := true, recurses := true, plainKeys := false, apart := false, narrowed := true }
def SwotNoReturnUptoSaid : Prop := swotNoReturnUptoRow.holds Tryz.pinned (OpenSpec.upto swotNoReturnSpec)

/-- 'barrowlaw11.SwotJoins', WHERE WHAT IT READS IS OF BULK AT MOST 1048576: true; the input reads as it did. -/
def swotJoinsUptoRow : OpenClaim := { program := "ythejoeiecenjkaagreat", sum := "860b6d42727f22fb5a1f5bf2a40e1973454d96e0b6e4dfa02e78eaf5ccca029b", func := "barrow/barrowlaw11.SwotJoins", spec := "swotJoins", inPlace := ["internal/bytealg.abigen_runtime_cmpstring"], unfollowed := true, recurses := true, plainKeys := false, apart := false, narrowed := true }
def SwotJoinsUptoSaid : Prop := swotJoinsUptoRow.holds Tryz.pinned (OpenSpec.upto swotJoinsSpec)

/-- 'barrowlaw11.SwotOrders', WHERE WHAT IT READS IS OF BULK AT MOST 1048576: true; the input reads as it did. -/
def swotOrdersUptoRow : OpenClaim := { program := "ythejoeiecenjkaagreat", sum := "860b6d42727f22fb5a1f5bf2a40e1973454d96e0b6e4dfa02e78eaf5ccca029b", func := "barrow/barrowlaw11.SwotOrders", spec := "swotOrders", inPlace := ["internal/bytealg.abigen_runtime_cmpstring"], unfollowed := true, recurses := true, plainKeys := false, apart := false, narrowed := true }
def SwotOrdersUptoSaid : Prop := swotOrdersUptoRow.holds Tryz.pinned (OpenSpec.upto swotOrdersSpec)

/-- 'barrowlaw11.SwotHistory', WHERE WHAT IT READS IS OF BULK AT MOST 1048576: true; the input reads as it did. -/
def swotHistoryUptoRow : OpenClaim := { program := "ythejoeiecenjkaagreat", sum := "860b6d42727f22fb5a1f5bf2a40e1973454d96e0b6e4dfa02e78eaf5ccca029b", func := "barrow/barrowlaw11.SwotHistory", spec := "swotHistory", inPlace := ["internal/bytealg.abigen_runtime_cmpstring"], unfollowed := true, recurses := true, plainKeys := false, apart := false, narrowed := true }
def SwotHistoryUptoSaid : Prop := swotHistoryUptoRow.holds Tryz.pinned (OpenSpec.upto swotHistorySpec)

/-- 'barrowlaw11.SwotAnyOrder', WHERE WHAT IT READS IS OF BULK AT MOST 1048576: true; the input reads as it did. -/
def swotAnyOrderUptoRow : OpenClaim := { program := "ythejoeiecenjkaagreat", sum := "860b6d42727f22fb5a1f5bf2a40e1973454d96e0b6e4dfa02e78eaf5ccca029b", func := "barrow/barrowlaw11.SwotAnyOrder", spec := "swotAnyOrder", inPlace := ["internal/bytealg.abigen_runtime_cmpstring"], unfollowed := true, recurses := true, plainKeys := false, apart := false, narrowed := true }
def SwotAnyOrderUptoSaid : Prop := swotAnyOrderUptoRow.holds Tryz.pinned (OpenSpec.upto swotAnyOrderSpec)

/-- 'barrowlaw11.SwotApart', WHERE WHAT IT READS IS OF BULK AT MOST 1048576: true; the input reads as it did. -/
def swotApartUptoRow : OpenClaim := { program := "ythejoeiecenjkaagreat", sum := "860b6d42727f22fb5a1f5bf2a40e1973454d96e0b6e4dfa02e78eaf5ccca029b", func := "barrow/barrowlaw11.SwotApart", spec := "swotApart", inPlace := ["internal/bytealg.abigen_runtime_cmpstring"], unfollowed := true, recurses := true, plainKeys := false, apart := false, narrowed := true }
def SwotApartUptoSaid : Prop := swotApartUptoRow.holds Tryz.pinned (OpenSpec.upto swotApartSpec)

end Rows
end Go.Proofs.YthejoeiecenjkaaGreat
