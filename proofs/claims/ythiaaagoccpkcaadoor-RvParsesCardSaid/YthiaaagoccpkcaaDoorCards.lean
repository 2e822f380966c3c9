/-
  DERIVED. GIVEN WITH THE SEED: THE CARDS: each row of YthiaaagoccpkcaaDoorRows.lean that lists a variable, with what it lists TIED to the program's text (the seventh form; the later family's looks); each row that meets fmt, with fmt's text TOLD by the authors' own Lean function (tested against real Go, not proved from fmt's source: count such statements apart). THE CARD IS WHAT COUNTS. Prove the row's statement (the work); the ties are given (YthiaaagoccpkcaaDoorTie.lean); close each card by the builder's one call (the guide's Derived/Test/ToyasCard.lean, 'card_holds'). Laid BY PROGRAM, IN A SANDBOX (cutbox-door.mjs). By AI agents, Wed Nov 11 2026. No macro, syntax, notation, axiom, sorry.
-/
import Derived.Test.YthiaaagoccpkcaaDoorRows
import GoSem.ClaimSeven
namespace Go.Proofs.YthiaaagoccpkcaaDoor
namespace Rows

/-- THE TIED CARD OF 'backstaylaw18.RvEncodes'. -/
def rvEncodesCard : Claim7 := { stood := { row := rvEncodesRow, standIns := [], harness := (true, "3495800b920c10ae5ca75aad2955090ced643ae881bc67895e283981f7b041f4"), looks := true }, kinds := [], alts := [], laidByText := true, laidKinds := [.data, .data, .data, .listed, .data], laidTests := true, laidLooks := .later }
def RvEncodesCardSaid : Prop := Claim7.holds Tryd.pinned (.plain (OpenSpec.ofChange rvEncodesSpec)) rvEncodesCard

/-- THE TIED CARD OF 'backstaylaw18.RvDecodes'. -/
def rvDecodesCard : Claim7 := { stood := { row := rvDecodesRow, standIns := [], harness := (true, "3495800b920c10ae5ca75aad2955090ced643ae881bc67895e283981f7b041f4"), looks := true }, kinds := [], alts := [], laidByText := true, laidKinds := [.data, .data, .data, .listed, .data], laidTests := true, laidLooks := .later }
def RvDecodesCardSaid : Prop := Claim7.holds Tryd.pinned (.plain (OpenSpec.ofChange rvDecodesSpec)) rvDecodesCard

/-- THE TIED CARD OF 'backstaylaw18.RvBytes'. -/
def rvBytesCard : Claim7 := { stood := { row := rvBytesRow, standIns := [], harness := (true, "3495800b920c10ae5ca75aad2955090ced643ae881bc67895e283981f7b041f4"), looks := true }, kinds := [], alts := [], laidByText := true, laidKinds := [.data, .data, .data, .listed, .data], laidTests := true, laidLooks := .later }
def RvBytesCardSaid : Prop := Claim7.holds Tryd.pinned (.plain (OpenSpec.ofChange rvBytesSpec)) rvBytesCard

/-- THE TIED CARD OF 'backstaylaw18.RvLists'. -/
def rvListsCard : Claim7 := { stood := { row := rvListsRow, standIns := [], harness := (true, "3495800b920c10ae5ca75aad2955090ced643ae881bc67895e283981f7b041f4"), looks := true }, kinds := [], alts := [], laidByText := true, laidKinds := [.data, .data, .data, .listed, .data], laidTests := true, laidLooks := .later }
def RvListsCardSaid : Prop := Claim7.holds Tryd.pinned (.plain (OpenSpec.ofChange rvListsSpec)) rvListsCard

/-- THE TIED CARD OF 'backstaylaw18.RvSteps'. -/
def rvStepsCard : Claim7 := { stood := { row := rvStepsRow, standIns := [], harness := (true, "3495800b920c10ae5ca75aad2955090ced643ae881bc67895e283981f7b041f4"), looks := true }, kinds := [], alts := [], laidByText := true, laidKinds := [.data, .data, .data, .listed, .data], laidTests := true, laidLooks := .later }
def RvStepsCardSaid : Prop := Claim7.holds Tryd.pinned (.plain (OpenSpec.ofChange rvStepsSpec)) rvStepsCard

/-- THE TIED CARD OF 'backstaylaw18.RvZeros'. -/
def rvZerosCard : Claim7 := { stood := { row := rvZerosRow, standIns := [], harness := (true, "3495800b920c10ae5ca75aad2955090ced643ae881bc67895e283981f7b041f4"), looks := true }, kinds := [], alts := [], laidByText := true, laidKinds := [.data, .data, .data, .listed, .data], laidTests := true, laidLooks := .later }
def RvZerosCardSaid : Prop := Claim7.holds Tryd.pinned (.plain (OpenSpec.ofChange rvZerosSpec)) rvZerosCard

/-- THE TIED CARD OF 'backstaylaw18.RvRuns'. -/
def rvRunsCard : Claim7 := { stood := { row := rvRunsRow, standIns := [], harness := (true, "3495800b920c10ae5ca75aad2955090ced643ae881bc67895e283981f7b041f4"), looks := true }, kinds := [], alts := [], laidByText := true, laidKinds := [.data, .data, .data, .listed, .data], laidTests := true, laidLooks := .later }
def RvRunsCardSaid : Prop := Claim7.holds Tryd.pinned (.plain (OpenSpec.ofChange rvRunsSpec)) rvRunsCard

/-- THE TIED CARD OF 'backstaylaw18.RvParses'. -/
def rvParsesCard : Claim7 := { stood := { row := rvParsesRow, standIns := [], harness := (true, "3495800b920c10ae5ca75aad2955090ced643ae881bc67895e283981f7b041f4"), looks := true }, kinds := [], alts := [], laidByText := true, laidKinds := [.data, .data, .data, .data, .sentinel, .sentinel, .listed, .data, .pinned], laidTests := true, laidLooks := .later }
def RvParsesCardSaid : Prop := Claim7.holds Tryd.pinned (.plain (OpenSpec.ofChange rvParsesSpec)) rvParsesCard

/-- THE TIED CARD OF 'backstaylaw18.RvTexts'. -/
def rvTextsCard : Claim7 := { stood := { row := rvTextsRow, standIns := [], harness := (true, "3495800b920c10ae5ca75aad2955090ced643ae881bc67895e283981f7b041f4"), looks := true }, kinds := [], alts := [], laidByText := true, laidKinds := [.data, .data, .data, .data, .sentinel, .sentinel, .listed, .data, .pinned], laidTests := true, laidLooks := .later }
def RvTextsCardSaid : Prop := Claim7.holds Tryd.pinned (.plain (OpenSpec.ofChange rvTextsSpec)) rvTextsCard

/-- THE SECOND FORM's CARD OF 'backstaylaw18.RvEncodes'. -/
def rvEncodesUptoCard : Claim7 := { stood := { row := rvEncodesUptoRow, standIns := [], harness := (true, "3495800b920c10ae5ca75aad2955090ced643ae881bc67895e283981f7b041f4"), looks := true }, kinds := [], alts := [], laidByText := true, laidKinds := [.data, .data, .data, .listed, .data], laidTests := true, laidLooks := .later }
def RvEncodesUptoCardSaid : Prop := Claim7.holds Tryd.pinned (.plain (OpenSpec.upto rvEncodesSpec)) rvEncodesUptoCard

/-- THE SECOND FORM's CARD OF 'backstaylaw18.RvDecodes'. -/
def rvDecodesUptoCard : Claim7 := { stood := { row := rvDecodesUptoRow, standIns := [], harness := (true, "3495800b920c10ae5ca75aad2955090ced643ae881bc67895e283981f7b041f4"), looks := true }, kinds := [], alts := [], laidByText := true, laidKinds := [.data, .data, .data, .listed, .data], laidTests := true, laidLooks := .later }
def RvDecodesUptoCardSaid : Prop := Claim7.holds Tryd.pinned (.plain (OpenSpec.upto rvDecodesSpec)) rvDecodesUptoCard

/-- THE SECOND FORM's CARD OF 'backstaylaw18.RvBytes'. -/
def rvBytesUptoCard : Claim7 := { stood := { row := rvBytesUptoRow, standIns := [], harness := (true, "3495800b920c10ae5ca75aad2955090ced643ae881bc67895e283981f7b041f4"), looks := true }, kinds := [], alts := [], laidByText := true, laidKinds := [.data, .data, .data, .listed, .data], laidTests := true, laidLooks := .later }
def RvBytesUptoCardSaid : Prop := Claim7.holds Tryd.pinned (.plain (OpenSpec.upto rvBytesSpec)) rvBytesUptoCard

/-- THE SECOND FORM's CARD OF 'backstaylaw18.RvLists'. -/
def rvListsUptoCard : Claim7 := { stood := { row := rvListsUptoRow, standIns := [], harness := (true, "3495800b920c10ae5ca75aad2955090ced643ae881bc67895e283981f7b041f4"), looks := true }, kinds := [], alts := [], laidByText := true, laidKinds := [.data, .data, .data, .listed, .data], laidTests := true, laidLooks := .later }
def RvListsUptoCardSaid : Prop := Claim7.holds Tryd.pinned (.plain (OpenSpec.upto rvListsSpec)) rvListsUptoCard

/-- THE SECOND FORM's CARD OF 'backstaylaw18.RvSteps'. -/
def rvStepsUptoCard : Claim7 := { stood := { row := rvStepsUptoRow, standIns := [], harness := (true, "3495800b920c10ae5ca75aad2955090ced643ae881bc67895e283981f7b041f4"), looks := true }, kinds := [], alts := [], laidByText := true, laidKinds := [.data, .data, .data, .listed, .data], laidTests := true, laidLooks := .later }
def RvStepsUptoCardSaid : Prop := Claim7.holds Tryd.pinned (.plain (OpenSpec.upto rvStepsSpec)) rvStepsUptoCard

/-- THE SECOND FORM's CARD OF 'backstaylaw18.RvZeros'. -/
def rvZerosUptoCard : Claim7 := { stood := { row := rvZerosUptoRow, standIns := [], harness := (true, "3495800b920c10ae5ca75aad2955090ced643ae881bc67895e283981f7b041f4"), looks := true }, kinds := [], alts := [], laidByText := true, laidKinds := [.data, .data, .data, .listed, .data], laidTests := true, laidLooks := .later }
def RvZerosUptoCardSaid : Prop := Claim7.holds Tryd.pinned (.plain (OpenSpec.upto rvZerosSpec)) rvZerosUptoCard

/-- THE SECOND FORM's CARD OF 'backstaylaw18.RvRuns'. -/
def rvRunsUptoCard : Claim7 := { stood := { row := rvRunsUptoRow, standIns := [], harness := (true, "3495800b920c10ae5ca75aad2955090ced643ae881bc67895e283981f7b041f4"), looks := true }, kinds := [], alts := [], laidByText := true, laidKinds := [.data, .data, .data, .listed, .data], laidTests := true, laidLooks := .later }
def RvRunsUptoCardSaid : Prop := Claim7.holds Tryd.pinned (.plain (OpenSpec.upto rvRunsSpec)) rvRunsUptoCard

/-- THE SECOND FORM's CARD OF 'backstaylaw18.RvParses'. -/
def rvParsesUptoCard : Claim7 := { stood := { row := rvParsesUptoRow, standIns := [], harness := (true, "3495800b920c10ae5ca75aad2955090ced643ae881bc67895e283981f7b041f4"), looks := true }, kinds := [], alts := [], laidByText := true, laidKinds := [.data, .data, .data, .data, .sentinel, .sentinel, .listed, .data, .pinned], laidTests := true, laidLooks := .later }
def RvParsesUptoCardSaid : Prop := Claim7.holds Tryd.pinned (.plain (OpenSpec.upto rvParsesSpec)) rvParsesUptoCard

/-- THE SECOND FORM's CARD OF 'backstaylaw18.RvTexts'. -/
def rvTextsUptoCard : Claim7 := { stood := { row := rvTextsUptoRow, standIns := [], harness := (true, "3495800b920c10ae5ca75aad2955090ced643ae881bc67895e283981f7b041f4"), looks := true }, kinds := [], alts := [], laidByText := true, laidKinds := [.data, .data, .data, .data, .sentinel, .sentinel, .listed, .data, .pinned], laidTests := true, laidLooks := .later }
def RvTextsUptoCardSaid : Prop := Claim7.holds Tryd.pinned (.plain (OpenSpec.upto rvTextsSpec)) rvTextsUptoCard
end Rows
end Go.Proofs.YthiaaagoccpkcaaDoor
