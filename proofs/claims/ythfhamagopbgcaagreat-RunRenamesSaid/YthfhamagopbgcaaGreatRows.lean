/-
  No cell of these rows narrows 'for every input' (looked for: loops, veiled, ifaces, maps, wideKeys, modest, calm, conditions, laid).
  DERIVED. THE GIVEN ROWS OF THIS SEAT. 8 by the template 'for every input the law returns true; each argument reads behind the call as it read before'; 0 by the template 'total and deterministic' (their statements: YthfhamagopbgcaaGreatTotals.lean).
  GIVEN WITH THE SEED: the statements are not yours to turn. If you find one false, say at which input.
  Laid BY PROGRAM, IN A SANDBOX (cutbox-rows.mjs): the forced cells as the released guide's own fill.sh prints them over the translation 22d58ef63ad4996e… (all of the seat's roots in one cut). By AI agents, Wed Nov 11 2026. No macro, syntax, notation, axiom, sorry.
-/
import Derived.Test.YthfhamagopbgcaaGreatChecked
import GoSem.Claim
import GoSem.ClaimJoined
import GoSem.ClaimMapViews
import Derived.JoinedTies
import Derived.KernelRfl
namespace Go.Proofs.YthfhamagopbgcaaGreat
/- THE CELL 'sum', in the pinned program and in every row, IS THE sha256 OF THE DUMP (.gsa) THAT YthfhamagopbgcaaGreatProg.lean LOADS. Nothing in Lean hashes anything: it is a label: what it is worth is what the hold of that sum in a sandbox is worth. -/
noncomputable def Tryz.pinned : Pinned := { name := "ythfhamagopbgcaagreat", sum := "22d58ef63ad4996e0e2d4aae70f3388eddf6acde14810c06c154227b076cdcaf", checked := Tryz.checked }
namespace Rows
def none {H : Type} : Left H := { results := [], args := [] }

/-- 'backstaylaw05.RunInputs': WHATEVER THE INPUT: true; the input reads as it did. -/
def runInputsSpec : ChangeSpec := { name := "runInputs", fn := fun _ => fun
  | [d1, d2] => { results := [.lit (.bool true)], args := [d1, d2] }
  | _ => none }
def runInputsRow : OpenClaim := { program := "ythfhamagopbgcaagreat", sum := "22d58ef63ad4996e0e2d4aae70f3388eddf6acde14810c06c154227b076cdcaf", func := "backstay/backstaylaw05.RunInputs", spec := "runInputs", inPlace := ["slices.overlaps[backstay/api.Outcome]"], unfollowed := true, recurses := true, apart := false }
def RunInputsSaid : Prop := runInputsRow.holds Tryz.pinned (OpenSpec.ofChange runInputsSpec)

/-- ITS FALSE NEIGHBOUR: 'it returns false'. Refute it at one input. -/
def runInputsWrong : ChangeSpec := { name := "runInputs", fn := fun _ => fun
  | [d1, d2] => { results := [.lit (.bool false)], args := [d1, d2] }
  | _ => none }
def RunInputsWrongFalsely : Prop := runInputsRow.holds Tryz.pinned (OpenSpec.ofChange runInputsWrong)

/-- 'backstaylaw05.RunRuns': WHATEVER THE INPUT: true; the input reads as it did. -/
def runRunsSpec : ChangeSpec := { name := "runRuns", fn := fun _ => fun
  | [d1, d2, d3] => { results := [.lit (.bool true)], args := [d1, d2, d3] }
  | _ => none }
def runRunsRow : OpenClaim := { program := "ythfhamagopbgcaagreat", sum := "22d58ef63ad4996e0e2d4aae70f3388eddf6acde14810c06c154227b076cdcaf", func := "backstay/backstaylaw05.RunRuns", spec := "runRuns", inPlace := ["slices.overlaps[backstay/api.Outcome]"], unfollowed := true, recurses := true, apart := false }
def RunRunsSaid : Prop := runRunsRow.holds Tryz.pinned (OpenSpec.ofChange runRunsSpec)

/-- ITS FALSE NEIGHBOUR: 'it returns false'. Refute it at one input. -/
def runRunsWrong : ChangeSpec := { name := "runRuns", fn := fun _ => fun
  | [d1, d2, d3] => { results := [.lit (.bool false)], args := [d1, d2, d3] }
  | _ => none }
def RunRunsWrongFalsely : Prop := runRunsRow.holds Tryz.pinned (OpenSpec.ofChange runRunsWrong)

/-- 'backstaylaw05.RunMembers': WHATEVER THE INPUT: true; the input reads as it did. -/
def runMembersSpec : ChangeSpec := { name := "runMembers", fn := fun _ => fun
  | [d1, d2, d3] => { results := [.lit (.bool true)], args := [d1, d2, d3] }
  | _ => none }
def runMembersRow : OpenClaim := { program := "ythfhamagopbgcaagreat", sum := "22d58ef63ad4996e0e2d4aae70f3388eddf6acde14810c06c154227b076cdcaf", func := "backstay/backstaylaw05.RunMembers", spec := "runMembers", inPlace := ["slices.overlaps[backstay/api.Outcome]"], unfollowed := true, recurses := true, apart := false }
def RunMembersSaid : Prop := runMembersRow.holds Tryz.pinned (OpenSpec.ofChange runMembersSpec)

/-- ITS FALSE NEIGHBOUR: 'it returns false'. Refute it at one input. -/
def runMembersWrong : ChangeSpec := { name := "runMembers", fn := fun _ => fun
  | [d1, d2, d3] => { results := [.lit (.bool false)], args := [d1, d2, d3] }
  | _ => none }
def RunMembersWrongFalsely : Prop := runMembersRow.holds Tryz.pinned (OpenSpec.ofChange runMembersWrong)

/-- 'backstaylaw05.RunOrders': WHATEVER THE INPUT: true; the input reads as it did. -/
def runOrdersSpec : ChangeSpec := { name := "runOrders", fn := fun _ => fun
  | [d1, d2] => { results := [.lit (.bool true)], args := [d1, d2] }
  | _ => none }
def runOrdersRow : OpenClaim := { program := "ythfhamagopbgcaagreat", sum := "22d58ef63ad4996e0e2d4aae70f3388eddf6acde14810c06c154227b076cdcaf", func := "backstay/backstaylaw05.RunOrders", spec := "runOrders", inPlace := ["slices.overlaps[backstay/api.Outcome]"], unfollowed := true, recurses := true, apart := false }
def RunOrdersSaid : Prop := runOrdersRow.holds Tryz.pinned (OpenSpec.ofChange runOrdersSpec)

/-- ITS FALSE NEIGHBOUR: 'it returns false'. Refute it at one input. -/
def runOrdersWrong : ChangeSpec := { name := "runOrders", fn := fun _ => fun
  | [d1, d2] => { results := [.lit (.bool false)], args := [d1, d2] }
  | _ => none }
def RunOrdersWrongFalsely : Prop := runOrdersRow.holds Tryz.pinned (OpenSpec.ofChange runOrdersWrong)

/-- 'backstaylaw05.RunAlls': WHATEVER THE INPUT: true; the input reads as it did. -/
def runAllsSpec : ChangeSpec := { name := "runAlls", fn := fun _ => fun
  | [d1, d2] => { results := [.lit (.bool true)], args := [d1, d2] }
  | _ => none }
def runAllsRow : OpenClaim := { program := "ythfhamagopbgcaagreat", sum := "22d58ef63ad4996e0e2d4aae70f3388eddf6acde14810c06c154227b076cdcaf", func := "backstay/backstaylaw05.RunAlls", spec := "runAlls", inPlace := ["slices.overlaps[backstay/api.Outcome]"], unfollowed := true, recurses := true, apart := false }
def RunAllsSaid : Prop := runAllsRow.holds Tryz.pinned (OpenSpec.ofChange runAllsSpec)

/-- ITS FALSE NEIGHBOUR: 'it returns false'. Refute it at one input. -/
def runAllsWrong : ChangeSpec := { name := "runAlls", fn := fun _ => fun
  | [d1, d2] => { results := [.lit (.bool false)], args := [d1, d2] }
  | _ => none }
def RunAllsWrongFalsely : Prop := runAllsRow.holds Tryz.pinned (OpenSpec.ofChange runAllsWrong)

/-- 'backstaylaw05.RunTraces': WHATEVER THE INPUT: true; the input reads as it did. -/
def runTracesSpec : ChangeSpec := { name := "runTraces", fn := fun _ => fun
  | [d1, d2, d3] => { results := [.lit (.bool true)], args := [d1, d2, d3] }
  | _ => none }
def runTracesRow : OpenClaim := { program := "ythfhamagopbgcaagreat", sum := "22d58ef63ad4996e0e2d4aae70f3388eddf6acde14810c06c154227b076cdcaf", func := "backstay/backstaylaw05.RunTraces", spec := "runTraces", inPlace := ["slices.overlaps[backstay/api.Outcome]"], unfollowed := true, recurses := true, apart := false }
def RunTracesSaid : Prop := runTracesRow.holds Tryz.pinned (OpenSpec.ofChange runTracesSpec)

/-- ITS FALSE NEIGHBOUR: 'it returns false'. Refute it at one input. -/
def runTracesWrong : ChangeSpec := { name := "runTraces", fn := fun _ => fun
  | [d1, d2, d3] => { results := [.lit (.bool false)], args := [d1, d2, d3] }
  | _ => none }
def RunTracesWrongFalsely : Prop := runTracesRow.holds Tryz.pinned (OpenSpec.ofChange runTracesWrong)

/-- 'backstaylaw05.RunValues': WHATEVER THE INPUT: true; the input reads as it did. -/
def runValuesSpec : ChangeSpec := { name := "runValues", fn := fun _ => fun
  | [d1, d2, d3] => { results := [.lit (.bool true)], args := [d1, d2, d3] }
  | _ => none }
def runValuesRow : OpenClaim := { program := "ythfhamagopbgcaagreat", sum := "22d58ef63ad4996e0e2d4aae70f3388eddf6acde14810c06c154227b076cdcaf", func := "backstay/backstaylaw05.RunValues", spec := "runValues", inPlace := ["slices.overlaps[backstay/api.Outcome]"], unfollowed := true, recurses := true, apart := false }
def RunValuesSaid : Prop := runValuesRow.holds Tryz.pinned (OpenSpec.ofChange runValuesSpec)

/-- ITS FALSE NEIGHBOUR: 'it returns false'. Refute it at one input. -/
def runValuesWrong : ChangeSpec := { name := "runValues", fn := fun _ => fun
  | [d1, d2, d3] => { results := [.lit (.bool false)], args := [d1, d2, d3] }
  | _ => none }
def RunValuesWrongFalsely : Prop := runValuesRow.holds Tryz.pinned (OpenSpec.ofChange runValuesWrong)

/-- 'backstaylaw05.RunRenames': WHATEVER THE INPUT: true; the input reads as it did. -/
def runRenamesSpec : ChangeSpec := { name := "runRenames", fn := fun _ => fun
  | [d1, d2, d3] => { results := [.lit (.bool true)], args := [d1, d2, d3] }
  | _ => none }
def runRenamesRow : OpenClaim := { program := "ythfhamagopbgcaagreat", sum := "22d58ef63ad4996e0e2d4aae70f3388eddf6acde14810c06c154227b076cdcaf", func := "backstay/backstaylaw05.RunRenames", spec := "runRenames", inPlace := ["slices.overlaps[backstay/api.Outcome]"], unfollowed := true, recurses := true, apart := false }
def RunRenamesSaid : Prop := runRenamesRow.holds Tryz.pinned (OpenSpec.ofChange runRenamesSpec)

/-- ITS FALSE NEIGHBOUR: 'it returns false'. Refute it at one input. -/
def runRenamesWrong : ChangeSpec := { name := "runRenames", fn := fun _ => fun
  | [d1, d2, d3] => { results := [.lit (.bool false)], args := [d1, d2, d3] }
  | _ => none }
def RunRenamesWrongFalsely : Prop := runRenamesRow.holds Tryz.pinned (OpenSpec.ofChange runRenamesWrong)

/- THE SECOND FORM. 'bulk': how many values and letters a reading holds, each counted each time it is reached (what is shared counts as often as it is met; a slice's spare places count too). A statement '..UptoSaid' is the law's where the arguments, and the package variables that the reading takes, are together of bulk at most 1048576: NARROWER than '..Said'. Prove '..Said' where nothing that the law and all that it calls make is longer than what came in: it says more and counts as full. Else prove '..UptoSaid'. A law counts once. -/
mutual
def uptoBulk {H : Type} : DataW H → Nat
  | .lit (.string bytes) => bytes.length + 1
  | .lit _ => 1
  | .nil => 1
  | .ptr d => uptoBulk d + 1
  | .slice elems spare => uptoBulkAll elems + uptoBulkAll spare + 1
  | .agg parts => uptoBulkAll parts + 1
  | .iface _ d => uptoBulk d + 1
  | .map entries => uptoBulkEntries entries + 1
  | .held _ => 1
def uptoBulkAll {H : Type} : List (DataW H) → Nat
  | [] => 0
  | d :: r => uptoBulk d + uptoBulkAll r
def uptoBulkEntries {H : Type} : List (Lit × DataW H) → Nat
  | [] => 0
  | x :: r => uptoBulkEntry x + uptoBulkEntries r
def uptoBulkEntry {H : Type} : Lit × DataW H → Nat
  | (.string bytes, d) => bytes.length + uptoBulk d + 1
  | (_, d) => uptoBulk d + 1
 end
def uptoSmall : (H : Type) → List (DataW H) → Bool := fun _ ds => decide (uptoBulkAll ds ≤ 1048576)
def OpenSpec.upto (s : _root_.Go.ChangeSpec) : _root_.Go.OpenSpec := { _root_.Go.OpenSpec.ofChange s with cond := some uptoSmall }

/-- 'backstaylaw05.RunInputs', WHERE WHAT IT READS IS OF BULK AT MOST 1048576: true; the input reads as it did. -/
def runInputsUptoRow : OpenClaim := { program := "ythfhamagopbgcaagreat", sum := "22d58ef63ad4996e0e2d4aae70f3388eddf6acde14810c06c154227b076cdcaf", func := "backstay/backstaylaw05.RunInputs", spec := "runInputs", inPlace := ["slices.overlaps[backstay/api.Outcome]"], unfollowed := true, recurses := true, apart := false, narrowed := true }
def RunInputsUptoSaid : Prop := runInputsUptoRow.holds Tryz.pinned (OpenSpec.upto runInputsSpec)

/-- 'backstaylaw05.RunRuns', WHERE WHAT IT READS IS OF BULK AT MOST 1048576: true; the input reads as it did. -/
def runRunsUptoRow : OpenClaim := { program := "ythfhamagopbgcaagreat", sum := "22d58ef63ad4996e0e2d4aae70f3388eddf6acde14810c06c154227b076cdcaf", func := "backstay/backstaylaw05.RunRuns", spec := "runRuns", inPlace := ["slices.overlaps[backstay/api.Outcome]"], unfollowed := true, recurses := true, apart := false, narrowed := true }
def RunRunsUptoSaid : Prop := runRunsUptoRow.holds Tryz.pinned (OpenSpec.upto runRunsSpec)

/-- 'backstaylaw05.RunMembers', WHERE WHAT IT READS IS OF BULK AT MOST 1048576: true; the input reads as it did. -/
def runMembersUptoRow : OpenClaim := { program := "ythfhamagopbgcaagreat", sum := "22d58ef63ad4996e0e2d4aae70f3388eddf6acde14810c06c154227b076cdcaf", func := "backstay/backstaylaw05.RunMembers", spec := "runMembers", inPlace := ["slices.overlaps[backstay/api.Outcome]"], unfollowed := true, recurses := true, apart := false, narrowed := true }
def RunMembersUptoSaid : Prop := runMembersUptoRow.holds Tryz.pinned (OpenSpec.upto runMembersSpec)

/-- 'backstaylaw05.RunOrders', WHERE WHAT IT READS IS OF BULK AT MOST 1048576: true; the input reads as it did. -/
def runOrdersUptoRow : OpenClaim := { program := "ythfhamagopbgcaagreat", sum := "22d58ef63ad4996e0e2d4aae70f3388eddf6acde14810c06c154227b076cdcaf", func := "backstay/backstaylaw05.RunOrders", spec := "runOrders", inPlace := ["slices.overlaps[backstay/api.Outcome]"], unfollowed := true, recurses := true, apart := false, narrowed := true }
def RunOrdersUptoSaid : Prop := runOrdersUptoRow.holds Tryz.pinned (OpenSpec.upto runOrdersSpec)

/-- 'backstaylaw05.RunAlls', WHERE WHAT IT READS IS OF BULK AT MOST 1048576: true; the input reads as it did. -/
def runAllsUptoRow : OpenClaim := { program := "ythfhamagopbgcaagreat", sum := "22d58ef63ad4996e0e2d4aae70f3388eddf6acde14810c06c154227b076cdcaf", func := "backstay/backstaylaw05.RunAlls", spec := "runAlls", inPlace := ["slices.overlaps[backstay/api.Outcome]"], unfollowed := true, recurses := true, apart := false, narrowed := true }
def RunAllsUptoSaid : Prop := runAllsUptoRow.holds Tryz.pinned (OpenSpec.upto runAllsSpec)

/-- 'backstaylaw05.RunTraces', WHERE WHAT IT READS IS OF BULK AT MOST 1048576: true; the input reads as it did. -/
def runTracesUptoRow : OpenClaim := { program := "ythfhamagopbgcaagreat", sum := "22d58ef63ad4996e0e2d4aae70f3388eddf6acde14810c06c154227b076cdcaf", func := "backstay/backstaylaw05.RunTraces", spec := "runTraces", inPlace := ["slices.overlaps[backstay/api.Outcome]"], unfollowed := true, recurses := true, apart := false, narrowed := true }
def RunTracesUptoSaid : Prop := runTracesUptoRow.holds Tryz.pinned (OpenSpec.upto runTracesSpec)

/-- 'backstaylaw05.RunValues', WHERE WHAT IT READS IS OF BULK AT MOST 1048576: true; the input reads as it did. -/
def runValuesUptoRow : OpenClaim := { program := "ythfhamagopbgcaagreat", sum := "22d58ef63ad4996e0e2d4aae70f3388eddf6acde14810c06c154227b076cdcaf", func := "backstay/backstaylaw05.RunValues", spec := "runValues", inPlace := ["slices.overlaps[backstay/api.Outcome]"], unfollowed := true, recurses := true, apart := false, narrowed := true }
def RunValuesUptoSaid : Prop := runValuesUptoRow.holds Tryz.pinned (OpenSpec.upto runValuesSpec)

/-- 'backstaylaw05.RunRenames', WHERE WHAT IT READS IS OF BULK AT MOST 1048576: true; the input reads as it did. -/
def runRenamesUptoRow : OpenClaim := { program := "ythfhamagopbgcaagreat", sum := "22d58ef63ad4996e0e2d4aae70f3388eddf6acde14810c06c154227b076cdcaf", func := "backstay/backstaylaw05.RunRenames", spec := "runRenames", inPlace := ["slices.overlaps[backstay/api.Outcome]"], unfollowed := true, recurses := true, apart := false, narrowed := true }
def RunRenamesUptoSaid : Prop := runRenamesUptoRow.holds Tryz.pinned (OpenSpec.upto runRenamesSpec)

end Rows
end Go.Proofs.YthfhamagopbgcaaGreat
