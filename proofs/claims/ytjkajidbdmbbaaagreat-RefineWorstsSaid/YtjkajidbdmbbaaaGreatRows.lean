/-
  No cell of these rows narrows 'for every input' (looked for: loops, veiled, ifaces, maps, wideKeys, modest, calm, conditions, laid).
  DERIVED. THE GIVEN ROWS OF THIS SEAT. 7 by the template 'for every input the law returns true; each argument reads behind the call as it read before'; 0 by the template 'total and deterministic' (their statements: YtjkajidbdmbbaaaGreatTotals.lean).
  GIVEN WITH THE SEED: the statements are not yours to turn. If you find one false, say at which input.
  Laid BY PROGRAM, IN A SANDBOX (cutbox-rows.mjs): the forced cells as the released guide's own fill.sh prints them over the translation 1b0275afd4d5f070… (all of the seat's roots in one cut). By AI agents, Wed Nov 11 2026. No macro, syntax, notation, axiom, sorry.
-/
import Derived.Test.YtjkajidbdmbbaaaGreatChecked
import GoSem.Claim
import GoSem.ClaimJoined
import GoSem.ClaimMapViews
import Derived.JoinedTies
import Derived.KernelRfl
namespace Go.Proofs.YtjkajidbdmbbaaaGreat
/- THE CELL 'sum', in the pinned program and in every row, IS THE sha256 OF THE DUMP (.gsa) THAT YtjkajidbdmbbaaaGreatProg.lean LOADS. Nothing in Lean hashes anything: it is a label: what it is worth is what the hold of that sum in a sandbox is worth. -/
noncomputable def Tryz.pinned : Pinned := { name := "ytjkajidbdmbbaaagreat", sum := "1b0275afd4d5f0701959a6555b0f70b1866874223015dd171352b780914aa9fc", checked := Tryz.checked }
namespace Rows
def none {H : Type} : Left H := { results := [], args := [] }

/-- 'backstaylaw06.RefinePermits': WHATEVER THE INPUT: true; the input reads as it did. -/
def refinePermitsSpec : ChangeSpec := { name := "refinePermits", fn := fun _ => fun
  | [d1, d2] => { results := [.lit (.bool true)], args := [d1, d2] }
  | _ => none }
def refinePermitsRow : OpenClaim := { program := "ytjkajidbdmbbaaagreat", sum := "1b0275afd4d5f0701959a6555b0f70b1866874223015dd171352b780914aa9fc", func := "backstay/backstaylaw06.RefinePermits", spec := "refinePermits", inPlace := ["slices.overlaps[backstay/api.Outcome]"], unfollowed := true, recurses := true, apart := false }
def RefinePermitsSaid : Prop := refinePermitsRow.holds Tryz.pinned (OpenSpec.ofChange refinePermitsSpec)

/-- ITS FALSE NEIGHBOUR: 'it returns false'. Refute it at one input. -/
def refinePermitsWrong : ChangeSpec := { name := "refinePermits", fn := fun _ => fun
  | [d1, d2] => { results := [.lit (.bool false)], args := [d1, d2] }
  | _ => none }
def RefinePermitsWrongFalsely : Prop := refinePermitsRow.holds Tryz.pinned (OpenSpec.ofChange refinePermitsWrong)

/-- 'backstaylaw06.RefineLists': WHATEVER THE INPUT: true; the input reads as it did. -/
def refineListsSpec : ChangeSpec := { name := "refineLists", fn := fun _ => fun
  | [d1, d2] => { results := [.lit (.bool true)], args := [d1, d2] }
  | _ => none }
def refineListsRow : OpenClaim := { program := "ytjkajidbdmbbaaagreat", sum := "1b0275afd4d5f0701959a6555b0f70b1866874223015dd171352b780914aa9fc", func := "backstay/backstaylaw06.RefineLists", spec := "refineLists", inPlace := ["slices.overlaps[backstay/api.Outcome]"], unfollowed := true, recurses := true, apart := false }
def RefineListsSaid : Prop := refineListsRow.holds Tryz.pinned (OpenSpec.ofChange refineListsSpec)

/-- ITS FALSE NEIGHBOUR: 'it returns false'. Refute it at one input. -/
def refineListsWrong : ChangeSpec := { name := "refineLists", fn := fun _ => fun
  | [d1, d2] => { results := [.lit (.bool false)], args := [d1, d2] }
  | _ => none }
def RefineListsWrongFalsely : Prop := refineListsRow.holds Tryz.pinned (OpenSpec.ofChange refineListsWrong)

/-- 'backstaylaw06.RefineChains': WHATEVER THE INPUT: true; the input reads as it did. -/
def refineChainsSpec : ChangeSpec := { name := "refineChains", fn := fun _ => fun
  | [d1, d2] => { results := [.lit (.bool true)], args := [d1, d2] }
  | _ => none }
def refineChainsRow : OpenClaim := { program := "ytjkajidbdmbbaaagreat", sum := "1b0275afd4d5f0701959a6555b0f70b1866874223015dd171352b780914aa9fc", func := "backstay/backstaylaw06.RefineChains", spec := "refineChains", inPlace := ["slices.overlaps[backstay/api.Outcome]"], unfollowed := true, recurses := true, apart := false }
def RefineChainsSaid : Prop := refineChainsRow.holds Tryz.pinned (OpenSpec.ofChange refineChainsSpec)

/-- ITS FALSE NEIGHBOUR: 'it returns false'. Refute it at one input. -/
def refineChainsWrong : ChangeSpec := { name := "refineChains", fn := fun _ => fun
  | [d1, d2] => { results := [.lit (.bool false)], args := [d1, d2] }
  | _ => none }
def RefineChainsWrongFalsely : Prop := refineChainsRow.holds Tryz.pinned (OpenSpec.ofChange refineChainsWrong)

/-- 'backstaylaw06.RefineAt': WHATEVER THE INPUT: true; the input reads as it did. -/
def refineAtSpec : ChangeSpec := { name := "refineAt", fn := fun _ => fun
  | [d1, d2, d3] => { results := [.lit (.bool true)], args := [d1, d2, d3] }
  | _ => none }
def refineAtRow : OpenClaim := { program := "ytjkajidbdmbbaaagreat", sum := "1b0275afd4d5f0701959a6555b0f70b1866874223015dd171352b780914aa9fc", func := "backstay/backstaylaw06.RefineAt", spec := "refineAt", inPlace := ["slices.overlaps[backstay/api.Outcome]"], unfollowed := true, recurses := true, apart := false }
def RefineAtSaid : Prop := refineAtRow.holds Tryz.pinned (OpenSpec.ofChange refineAtSpec)

/-- ITS FALSE NEIGHBOUR: 'it returns false'. Refute it at one input. -/
def refineAtWrong : ChangeSpec := { name := "refineAt", fn := fun _ => fun
  | [d1, d2, d3] => { results := [.lit (.bool false)], args := [d1, d2, d3] }
  | _ => none }
def RefineAtWrongFalsely : Prop := refineAtRow.holds Tryz.pinned (OpenSpec.ofChange refineAtWrong)

/-- 'backstaylaw06.RefineInputs': WHATEVER THE INPUT: true; the input reads as it did. -/
def refineInputsSpec : ChangeSpec := { name := "refineInputs", fn := fun _ => fun
  | [d1, d2] => { results := [.lit (.bool true)], args := [d1, d2] }
  | _ => none }
def refineInputsRow : OpenClaim := { program := "ytjkajidbdmbbaaagreat", sum := "1b0275afd4d5f0701959a6555b0f70b1866874223015dd171352b780914aa9fc", func := "backstay/backstaylaw06.RefineInputs", spec := "refineInputs", inPlace := ["slices.overlaps[backstay/api.Outcome]"], unfollowed := true, recurses := true, apart := false }
def RefineInputsSaid : Prop := refineInputsRow.holds Tryz.pinned (OpenSpec.ofChange refineInputsSpec)

/-- ITS FALSE NEIGHBOUR: 'it returns false'. Refute it at one input. -/
def refineInputsWrong : ChangeSpec := { name := "refineInputs", fn := fun _ => fun
  | [d1, d2] => { results := [.lit (.bool false)], args := [d1, d2] }
  | _ => none }
def RefineInputsWrongFalsely : Prop := refineInputsRow.holds Tryz.pinned (OpenSpec.ofChange refineInputsWrong)

/-- 'backstaylaw06.RefineFirsts': WHATEVER THE INPUT: true; the input reads as it did. -/
def refineFirstsSpec : ChangeSpec := { name := "refineFirsts", fn := fun _ => fun
  | [d1, d2] => { results := [.lit (.bool true)], args := [d1, d2] }
  | _ => none }
def refineFirstsRow : OpenClaim := { program := "ytjkajidbdmbbaaagreat", sum := "1b0275afd4d5f0701959a6555b0f70b1866874223015dd171352b780914aa9fc", func := "backstay/backstaylaw06.RefineFirsts", spec := "refineFirsts", inPlace := ["slices.overlaps[backstay/api.Outcome]"], unfollowed := true, recurses := true, apart := false }
def RefineFirstsSaid : Prop := refineFirstsRow.holds Tryz.pinned (OpenSpec.ofChange refineFirstsSpec)

/-- ITS FALSE NEIGHBOUR: 'it returns false'. Refute it at one input. -/
def refineFirstsWrong : ChangeSpec := { name := "refineFirsts", fn := fun _ => fun
  | [d1, d2] => { results := [.lit (.bool false)], args := [d1, d2] }
  | _ => none }
def RefineFirstsWrongFalsely : Prop := refineFirstsRow.holds Tryz.pinned (OpenSpec.ofChange refineFirstsWrong)

/-- 'backstaylaw06.RefineWorsts': WHATEVER THE INPUT: true; the input reads as it did. -/
def refineWorstsSpec : ChangeSpec := { name := "refineWorsts", fn := fun _ => fun
  | [d1, d2] => { results := [.lit (.bool true)], args := [d1, d2] }
  | _ => none }
def refineWorstsRow : OpenClaim := { program := "ytjkajidbdmbbaaagreat", sum := "1b0275afd4d5f0701959a6555b0f70b1866874223015dd171352b780914aa9fc", func := "backstay/backstaylaw06.RefineWorsts", spec := "refineWorsts", inPlace := ["slices.overlaps[backstay/api.Outcome]"], unfollowed := true, recurses := true, apart := false }
def RefineWorstsSaid : Prop := refineWorstsRow.holds Tryz.pinned (OpenSpec.ofChange refineWorstsSpec)

/-- ITS FALSE NEIGHBOUR: 'it returns false'. Refute it at one input. -/
def refineWorstsWrong : ChangeSpec := { name := "refineWorsts", fn := fun _ => fun
  | [d1, d2] => { results := [.lit (.bool false)], args := [d1, d2] }
  | _ => none }
def RefineWorstsWrongFalsely : Prop := refineWorstsRow.holds Tryz.pinned (OpenSpec.ofChange refineWorstsWrong)

/- THE SECOND FORM. 'bulk': how many values and letters a reading holds, each counted each time it is reached (what is shared counts as often as it is met; a slice's spare places count too). A statement '..UptoSaid' is the law's where the arguments, and the package variables that the reading takes, are together of bulk at most 1048576: NARROWER than '..Said'. Prove '..Said' where nothing that the law and all that it calls make is longer than what came in: it says more and counts as full. Else prove '..UptoSaid'. A law counts once. -/
mutual
def uptoBulk {H : Type} : DataW H → Nat
  | .lit (.string bytes) => bytes.length + 1
  | .lit _ => 1
  | .nil => 1
  | .ptr d => uptoBulk d + 1
  | .slice elems spare => uptoBulkAll elems + uptoBulkAll spare + 1
  | .agg parts => uptoBulkAll parts + 1
  | .iface _ d => uptoBulk d + 1
  | .map entries => uptoBulkEntries entries + 1
  | .held _ => 1
def uptoBulkAll {H : Type} : List (DataW H) → Nat
  | [] => 0
  | d :: r => uptoBulk d + uptoBulkAll r
def uptoBulkEntries {H : Type} : List (Lit × DataW H) → Nat
  | [] => 0
  | x :: r => uptoBulkEntry x + uptoBulkEntries r
def uptoBulkEntry {H : Type} : Lit × DataW H → Nat
  | (.string bytes, d) => bytes.length + uptoBulk d + 1
  | (_, d) => uptoBulk d + 1
 end
def uptoSmall : (H : Type) → List (DataW H) → Bool := fun _ ds => decide (uptoBulkAll ds ≤ 1048576)
def OpenSpec.upto (s : _root_.Go.ChangeSpec) : _root_.Go.OpenSpec := { _root_.Go.OpenSpec.ofChange s with cond := some uptoSmall }

/-- 'backstaylaw06.RefinePermits', WHERE WHAT IT READS IS OF BULK AT MOST 1048576: true; the input reads as it did. -/
def refinePermitsUptoRow : OpenClaim := { program := "ytjkajidbdmbbaaagreat", sum := "1b0275afd4d5f0701959a6555b0f70b1866874223015dd171352b780914aa9fc", func := "backstay/backstaylaw06.RefinePermits", spec := "refinePermits", inPlace := ["slices.overlaps[backstay/api.Outcome]"], unfollowed := true, recurses := true, apart := false, narrowed := true }
def RefinePermitsUptoSaid : Prop := refinePermitsUptoRow.holds Tryz.pinned (OpenSpec.upto refinePermitsSpec)

/-- 'backstaylaw06.RefineLists', WHERE WHAT IT READS IS OF BULK AT MOST 1048576: true; the input reads as it did. -/
def refineListsUptoRow : OpenClaim := { program := "ytjkajidbdmbbaaagreat", sum := "1b0275afd4d5f0701959a6555b0f70b1866874223015dd171352b780914aa9fc", func := "backstay/backstaylaw06.RefineLists", spec := "refineLists", inPlace := ["slices.overlaps[backstay/api.Outcome]"], unfollowed := true, recurses := true, apart := false, narrowed := true }
def RefineListsUptoSaid : Prop := refineListsUptoRow.holds Tryz.pinned (OpenSpec.upto refineListsSpec)

/-- 'backstaylaw06.RefineChains', WHERE WHAT IT READS IS OF BULK AT MOST 1048576: true; the input reads as it did. -/
def refineChainsUptoRow : OpenClaim := { program := "ytjkajidbdmbbaaagreat", sum := "1b0275afd4d5f0701959a6555b0f70b1866874223015dd171352b780914aa9fc", func := "backstay/backstaylaw06.RefineChains", spec := "refineChains", inPlace := ["slices.overlaps[backstay/api.Outcome]"], unfollowed := true, recurses := true, apart := false, narrowed := true }
def RefineChainsUptoSaid : Prop := refineChainsUptoRow.holds Tryz.pinned (OpenSpec.upto refineChainsSpec)

/-- 'backstaylaw06.RefineAt', WHERE WHAT IT READS IS OF BULK AT MOST 1048576: true; the input reads as it did. -/
def refineAtUptoRow : OpenClaim := { program := "ytjkajidbdmbbaaagreat", sum := "1b0275afd4d5f0701959a6555b0f70b1866874223015dd171352b780914aa9fc", func := "backstay/backstaylaw06.RefineAt", spec := "refineAt", inPlace := ["slices.overlaps[backstay/api.Outcome]"], unfollowed := true, recurses := true, apart := false, narrowed := true }
def RefineAtUptoSaid : Prop := refineAtUptoRow.holds Tryz.pinned (OpenSpec.upto refineAtSpec)

/-- 'backstaylaw06.RefineInputs', WHERE WHAT IT READS IS OF BULK AT MOST 1048576: true; the input reads as it did. -/
def refineInputsUptoRow : OpenClaim := { program := "ytjkajidbdmbbaaagreat", sum := "1b0275afd4d5f0701959a6555b0f70b1866874223015dd171352b780914aa9fc", func := "backstay/backstaylaw06.RefineInputs", spec := "refineInputs", inPlace := ["slices.overlaps[backstay/api.Outcome]"], unfollowed := true, recurses := true, apart := false, narrowed := true }
def RefineInputsUptoSaid : Prop := refineInputsUptoRow.holds Tryz.pinned (OpenSpec.upto refineInputsSpec)

/-- 'backstaylaw06.RefineFirsts', WHERE WHAT IT READS IS OF BULK AT MOST 1048576: true; the input reads as it did. -/
def refineFirstsUptoRow : OpenClaim := { program := "ytjkajidbdmbbaaagreat", sum := "1b0275afd4d5f0701959a6555b0f70b1866874223015dd171352b780914aa9fc", func := "backstay/backstaylaw06.RefineFirsts", spec := "refineFirsts", inPlace := ["slices.overlaps[backstay/api.Outcome]"], unfollowed := true, recurses := true, apart := false, narrowed := true }
def RefineFirstsUptoSaid : Prop := refineFirstsUptoRow.holds Tryz.pinned (OpenSpec.upto refineFirstsSpec)

/-- 'backstaylaw06.RefineWorsts', WHERE WHAT IT READS IS OF BULK AT MOST 1048576: true; the input reads as it did. -/
def refineWorstsUptoRow : OpenClaim := { program := "ytjkajidbdmbbaaagreat", sum := "1b0275afd4d5f0701959a6555b0f70b1866874223015dd171352b780914aa9fc", func := "backstay/backstaylaw06.RefineWorsts", spec := "refineWorsts", inPlace := ["slices.overlaps[backstay/api.Outcome]"], unfollowed := true, recurses := true, apart := false, narrowed := true }
def RefineWorstsUptoSaid : Prop := refineWorstsUptoRow.holds Tryz.pinned (OpenSpec.upto refineWorstsSpec)

end Rows
end Go.Proofs.YtjkajidbdmbbaaaGreat
