/-
  No cell of these rows narrows 'for every input' (looked for: loops, veiled, ifaces, maps, wideKeys, modest, calm, conditions, laid).
  DERIVED. THE GIVEN ROWS OF THIS SEAT. 5 by the template 'for every input the law returns true; each argument reads behind the call as it read before'; 0 by the template 'total and deterministic' (their statements: YtiadpjhlomhjeaaTotals.lean).
  GIVEN WITH THE SEED: the statements are not yours to turn. If you find one false, say at which input.
  Laid BY PROGRAM, IN A SANDBOX (cutbox-rows.mjs): the forced cells as the released guide's own fill.sh prints them over the translation 06f2781afea7d7dc… (all of the seat's roots in one cut). By AI agents, Wed Nov 11 2026. No macro, syntax, notation, axiom, sorry.
-/
import Derived.Test.YtiadpjhlomhjeaaChecked
import GoSem.Claim
import GoSem.ClaimJoined
import GoSem.ClaimMapViews
import Derived.JoinedTies
import Derived.KernelRfl
namespace Go.Proofs.Ytiadpjhlomhjeaa
/- THE CELL 'sum', in the pinned program and in every row, IS THE sha256 OF THE DUMP (.gsa) THAT YtiadpjhlomhjeaaProg.lean LOADS. Nothing in Lean hashes anything: it is a label: what it is worth is what the hold of that sum in a sandbox is worth. -/
noncomputable def Try.pinned : Pinned := { name := "ytiadpjhlomhjeaa", sum := "06f2781afea7d7dca19a0c82d06f7deb43660247e1d96777f1bf6879d4d34b31", checked := Try.checked }
namespace Rows
def none {H : Type} : Left H := { results := [], args := [] }

/-- 'backstaylaw03.IrValidates': WHATEVER THE INPUT: true; the input reads as it did. -/
def irValidatesSpec : ChangeSpec := { name := "irValidates", fn := fun _ => fun
  | [d] => { results := [.lit (.bool true)], args := [d] }
  | _ => none }
def irValidatesRow : OpenClaim := { program := "ytiadpjhlomhjeaa", sum := "06f2781afea7d7dca19a0c82d06f7deb43660247e1d96777f1bf6879d4d34b31", func := "backstay/backstaylaw03.IrValidates", spec := "irValidates", unfollowed := true, recurses := true, apart := false }
def IrValidatesSaid : Prop := irValidatesRow.holds Try.pinned (OpenSpec.ofChange irValidatesSpec)

/-- ITS FALSE NEIGHBOUR: 'it returns false'. Refute it at one input. -/
def irValidatesWrong : ChangeSpec := { name := "irValidates", fn := fun _ => fun
  | [d] => { results := [.lit (.bool false)], args := [d] }
  | _ => none }
def IrValidatesWrongFalsely : Prop := irValidatesRow.holds Try.pinned (OpenSpec.ofChange irValidatesWrong)

/-- 'backstaylaw03.IrGraphs': WHATEVER THE INPUT: true; the input reads as it did. -/
def irGraphsSpec : ChangeSpec := { name := "irGraphs", fn := fun _ => fun
  | [d] => { results := [.lit (.bool true)], args := [d] }
  | _ => none }
def irGraphsRow : OpenClaim := { program := "ytiadpjhlomhjeaa", sum := "06f2781afea7d7dca19a0c82d06f7deb43660247e1d96777f1bf6879d4d34b31", func := "backstay/backstaylaw03.IrGraphs", spec := "irGraphs", unfollowed := true, recurses := true, apart := false }
def IrGraphsSaid : Prop := irGraphsRow.holds Try.pinned (OpenSpec.ofChange irGraphsSpec)

/-- ITS FALSE NEIGHBOUR: 'it returns false'. Refute it at one input. -/
def irGraphsWrong : ChangeSpec := { name := "irGraphs", fn := fun _ => fun
  | [d] => { results := [.lit (.bool false)], args := [d] }
  | _ => none }
def IrGraphsWrongFalsely : Prop := irGraphsRow.holds Try.pinned (OpenSpec.ofChange irGraphsWrong)

/-- 'backstaylaw03.IrValues': WHATEVER THE INPUT: true; the input reads as it did. -/
def irValuesSpec : ChangeSpec := { name := "irValues", fn := fun _ => fun
  | [d1, d2] => { results := [.lit (.bool true)], args := [d1, d2] }
  | _ => none }
def irValuesRow : OpenClaim := { program := "ytiadpjhlomhjeaa", sum := "06f2781afea7d7dca19a0c82d06f7deb43660247e1d96777f1bf6879d4d34b31", func := "backstay/backstaylaw03.IrValues", spec := "irValues", unfollowed := true, recurses := true, apart := false }
def IrValuesSaid : Prop := irValuesRow.holds Try.pinned (OpenSpec.ofChange irValuesSpec)

/-- ITS FALSE NEIGHBOUR: 'it returns false'. Refute it at one input. -/
def irValuesWrong : ChangeSpec := { name := "irValues", fn := fun _ => fun
  | [d1, d2] => { results := [.lit (.bool false)], args := [d1, d2] }
  | _ => none }
def IrValuesWrongFalsely : Prop := irValuesRow.holds Try.pinned (OpenSpec.ofChange irValuesWrong)

/-- 'backstaylaw03.IrAlikes': WHATEVER THE INPUT: true; the input reads as it did. -/
def irAlikesSpec : ChangeSpec := { name := "irAlikes", fn := fun _ => fun
  | [d1, d2] => { results := [.lit (.bool true)], args := [d1, d2] }
  | _ => none }
def irAlikesRow : OpenClaim := { program := "ytiadpjhlomhjeaa", sum := "06f2781afea7d7dca19a0c82d06f7deb43660247e1d96777f1bf6879d4d34b31", func := "backstay/backstaylaw03.IrAlikes", spec := "irAlikes", unfollowed := true, recurses := true, apart := false }
def IrAlikesSaid : Prop := irAlikesRow.holds Try.pinned (OpenSpec.ofChange irAlikesSpec)

/-- ITS FALSE NEIGHBOUR: 'it returns false'. Refute it at one input. -/
def irAlikesWrong : ChangeSpec := { name := "irAlikes", fn := fun _ => fun
  | [d1, d2] => { results := [.lit (.bool false)], args := [d1, d2] }
  | _ => none }
def IrAlikesWrongFalsely : Prop := irAlikesRow.holds Try.pinned (OpenSpec.ofChange irAlikesWrong)

/-- 'backstaylaw03.IrCopies': WHATEVER THE INPUT: true; the input reads as it did. -/
def irCopiesSpec : ChangeSpec := { name := "irCopies", fn := fun _ => fun
  | [d] => { results := [.lit (.bool true)], args := [d] }
  | _ => none }
def irCopiesRow : OpenClaim := { program := "ytiadpjhlomhjeaa", sum := "06f2781afea7d7dca19a0c82d06f7deb43660247e1d96777f1bf6879d4d34b31", func := "backstay/backstaylaw03.IrCopies", spec := "irCopies", unfollowed := true, recurses := true, apart := false }
def IrCopiesSaid : Prop := irCopiesRow.holds Try.pinned (OpenSpec.ofChange irCopiesSpec)

/-- ITS FALSE NEIGHBOUR: 'it returns false'. Refute it at one input. -/
def irCopiesWrong : ChangeSpec := { name := "irCopies", fn := fun _ => fun
  | [d] => { results := [.lit (.bool false)], args := [d] }
  | _ => none }
def IrCopiesWrongFalsely : Prop := irCopiesRow.holds Try.pinned (OpenSpec.ofChange irCopiesWrong)

/- THE SECOND FORM. 'bulk': how many values and letters a reading holds, each counted each time it is reached (what is shared counts as often as it is met; a slice's spare places count too). A statement '..UptoSaid' is the law's where the arguments, and the package variables that the reading takes, are together of bulk at most 1048576: NARROWER than '..Said'. Prove '..Said' where nothing that the law and all that it calls make is longer than what came in: it says more and counts as full. Else prove '..UptoSaid'. A law counts once. -/
mutual
def uptoBulk {H : Type} : DataW H → Nat
  | .lit (.string bytes) => bytes.length + 1
  | .lit _ => 1
  | .nil => 1
  | .ptr d => uptoBulk d + 1
  | .slice elems spare => uptoBulkAll elems + uptoBulkAll spare + 1
  | .agg parts => uptoBulkAll parts + 1
  | .iface _ d => uptoBulk d + 1
  | .map entries => uptoBulkEntries entries + 1
  | .held _ => 1
def uptoBulkAll {H : Type} : List (DataW H) → Nat
  | [] => 0
  | d :: r => uptoBulk d + uptoBulkAll r
def uptoBulkEntries {H : Type} : List (Lit × DataW H) → Nat
  | [] => 0
  | x :: r => uptoBulkEntry x + uptoBulkEntries r
def uptoBulkEntry {H : Type} : Lit × DataW H → Nat
  | (.string bytes, d) => bytes.length + uptoBulk d + 1
  | (_, d) => uptoBulk d + 1
 end
def uptoSmall : (H : Type) → List (DataW H) → Bool := fun _ ds => decide (uptoBulkAll ds ≤ 1048576)
def OpenSpec.upto (s : _root_.Go.ChangeSpec) : _root_.Go.OpenSpec := { _root_.Go.OpenSpec.ofChange s with cond := some uptoSmall }

/-- 'backstaylaw03.IrValidates', WHERE WHAT IT READS IS OF BULK AT MOST 1048576: true; the input reads as it did. -/
def irValidatesUptoRow : OpenClaim := { program := "ytiadpjhlomhjeaa", sum := "06f2781afea7d7dca19a0c82d06f7deb43660247e1d96777f1bf6879d4d34b31", func := "backstay/backstaylaw03.IrValidates", spec := "irValidates", unfollowed := true, recurses := true, apart := false, narrowed := true }
def IrValidatesUptoSaid : Prop := irValidatesUptoRow.holds Try.pinned (OpenSpec.upto irValidatesSpec)

/-- 'backstaylaw03.IrGraphs', WHERE WHAT IT READS IS OF BULK AT MOST 1048576: true; the input reads as it did. -/
def irGraphsUptoRow : OpenClaim := { program := "ytiadpjhlomhjeaa", sum := "06f2781afea7d7dca19a0c82d06f7deb43660247e1d96777f1bf6879d4d34b31", func := "backstay/backstaylaw03.IrGraphs", spec := "irGraphs", unfollowed := true, recurses := true, apart := false, narrowed := true }
def IrGraphsUptoSaid : Prop := irGraphsUptoRow.holds Try.pinned (OpenSpec.upto irGraphsSpec)

/-- 'backstaylaw03.IrValues', WHERE WHAT IT READS IS OF BULK AT MOST 1048576: true; the input reads as it did. -/
def irValuesUptoRow : OpenClaim := { program := "ytiadpjhlomhjeaa", sum := "06f2781afea7d7dca19a0c82d06f7deb43660247e1d96777f1bf6879d4d34b31", func := "backstay/backstaylaw03.IrValues", spec := "irValues", unfollowed := true, recurses := true, apart := false, narrowed := true }
def IrValuesUptoSaid : Prop := irValuesUptoRow.holds Try.pinned (OpenSpec.upto irValuesSpec)

/-- 'backstaylaw03.IrAlikes', WHERE WHAT IT READS IS OF BULK AT MOST 1048576: true; the input reads as it did. -/
def irAlikesUptoRow : OpenClaim := { program := "ytiadpjhlomhjeaa", sum := "06f2781afea7d7dca19a0c82d06f7deb43660247e1d96777f1bf6879d4d34b31", func := "backstay/backstaylaw03.IrAlikes", spec := "irAlikes", unfollowed := true, recurses := true, apart := false, narrowed := true }
def IrAlikesUptoSaid : Prop := irAlikesUptoRow.holds Try.pinned (OpenSpec.upto irAlikesSpec)

/-- 'backstaylaw03.IrCopies', WHERE WHAT IT READS IS OF BULK AT MOST 1048576: true; the input reads as it did. -/
def irCopiesUptoRow : OpenClaim := { program := "ytiadpjhlomhjeaa", sum := "06f2781afea7d7dca19a0c82d06f7deb43660247e1d96777f1bf6879d4d34b31", func := "backstay/backstaylaw03.IrCopies", spec := "irCopies", unfollowed := true, recurses := true, apart := false, narrowed := true }
def IrCopiesUptoSaid : Prop := irCopiesUptoRow.holds Try.pinned (OpenSpec.upto irCopiesSpec)

end Rows
end Go.Proofs.Ytiadpjhlomhjeaa
