/-
  DERIVED. GIVEN WITH THE SEED: THE CARDS: each row of YtcdoilkjmjbgmaaGreatDoorRows.lean that lists a variable, with what it lists TIED to the program's text (the seventh form; the later family's looks); each row that meets fmt, with fmt's text TOLD by the authors' own Lean function (tested against real Go, not proved from fmt's source: count such statements apart). THE CARD IS WHAT COUNTS. Prove the row's statement (the work); the ties are given (YtcdoilkjmjbgmaaGreatDoorTie.lean); close each card by the builder's one call (the guide's Derived/Test/ToyasCard.lean, 'card_holds'). Laid BY PROGRAM, IN A SANDBOX (cutbox-door.mjs). By AI agents, Wed Nov 11 2026. No macro, syntax, notation, axiom, sorry.
-/
import Derived.Test.YtcdoilkjmjbgmaaGreatDoorRows
import GoSem.ClaimSeven
namespace Go.Proofs.YtcdoilkjmjbgmaaGreatDoor
namespace Rows

/-- THE TIED CARD OF 'weirlaw12.TreeWalks'. -/
def treeWalksCard : Claim7 := { stood := { row := treeWalksRow, standIns := [], harness := (true, "1843f43099b65399e3e46db26c302292b1d50261b7d0b9784a0fc322c666a03a"), looks := true }, kinds := [], alts := [], laidByText := true, laidKinds := [.data, .data, .widerDeep, .widerDeep, .data, .data, .data, .data, .data, .sentinel, .sentinel, .pinned, .pinned], laidTests := true, laidLooks := .later }
def TreeWalksCardSaid : Prop := Claim7.holds Tryz.pinned (.plain (OpenSpec.ofChange treeWalksSpec)) treeWalksCard

/-- THE TIED CARD OF 'weirlaw12.TreeBuilds'. -/
def treeBuildsCard : Claim7 := { stood := { row := treeBuildsRow, standIns := [], harness := (true, "1843f43099b65399e3e46db26c302292b1d50261b7d0b9784a0fc322c666a03a"), looks := true }, kinds := [], alts := [], laidByText := true, laidKinds := [.data, .data, .widerDeep, .widerDeep, .data, .data, .data, .data, .data, .sentinel, .sentinel, .pinned, .pinned], laidTests := true, laidLooks := .later }
def TreeBuildsCardSaid : Prop := Claim7.holds Tryz.pinned (.plain (OpenSpec.ofChange treeBuildsSpec)) treeBuildsCard

/-- THE TIED CARD OF 'weirlaw12.TreeSames'. -/
def treeSamesCard : Claim7 := { stood := { row := treeSamesRow, standIns := [], harness := (true, "1843f43099b65399e3e46db26c302292b1d50261b7d0b9784a0fc322c666a03a"), looks := true }, kinds := [], alts := [], laidByText := true, laidKinds := [.data, .data, .widerDeep, .widerDeep, .data, .data, .data, .data, .data, .sentinel, .sentinel, .pinned, .pinned], laidTests := true, laidLooks := .later }
def TreeSamesCardSaid : Prop := Claim7.holds Tryz.pinned (.plain (OpenSpec.ofChange treeSamesSpec)) treeSamesCard

/-- THE TIED CARD OF 'weirlaw12.TreeMaps'. -/
def treeMapsCard : Claim7 := { stood := { row := treeMapsRow, standIns := [], harness := (true, "1843f43099b65399e3e46db26c302292b1d50261b7d0b9784a0fc322c666a03a"), looks := true }, kinds := [], alts := [], laidByText := true, laidKinds := [.data, .data, .widerDeep, .widerDeep, .data, .data, .data, .data, .data, .sentinel, .sentinel, .pinned, .pinned], laidTests := true, laidLooks := .later }
def TreeMapsCardSaid : Prop := Claim7.holds Tryz.pinned (.plain (OpenSpec.ofChange treeMapsSpec)) treeMapsCard

/-- THE SECOND FORM's CARD OF 'weirlaw12.TreeWalks'. -/
def treeWalksUptoCard : Claim7 := { stood := { row := treeWalksUptoRow, standIns := [], harness := (true, "1843f43099b65399e3e46db26c302292b1d50261b7d0b9784a0fc322c666a03a"), looks := true }, kinds := [], alts := [], laidByText := true, laidKinds := [.data, .data, .widerDeep, .widerDeep, .data, .data, .data, .data, .data, .sentinel, .sentinel, .pinned, .pinned], laidTests := true, laidLooks := .later }
def TreeWalksUptoCardSaid : Prop := Claim7.holds Tryz.pinned (.plain (OpenSpec.upto treeWalksSpec)) treeWalksUptoCard

/-- THE SECOND FORM's CARD OF 'weirlaw12.TreeBuilds'. -/
def treeBuildsUptoCard : Claim7 := { stood := { row := treeBuildsUptoRow, standIns := [], harness := (true, "1843f43099b65399e3e46db26c302292b1d50261b7d0b9784a0fc322c666a03a"), looks := true }, kinds := [], alts := [], laidByText := true, laidKinds := [.data, .data, .widerDeep, .widerDeep, .data, .data, .data, .data, .data, .sentinel, .sentinel, .pinned, .pinned], laidTests := true, laidLooks := .later }
def TreeBuildsUptoCardSaid : Prop := Claim7.holds Tryz.pinned (.plain (OpenSpec.upto treeBuildsSpec)) treeBuildsUptoCard

/-- THE SECOND FORM's CARD OF 'weirlaw12.TreeSames'. -/
def treeSamesUptoCard : Claim7 := { stood := { row := treeSamesUptoRow, standIns := [], harness := (true, "1843f43099b65399e3e46db26c302292b1d50261b7d0b9784a0fc322c666a03a"), looks := true }, kinds := [], alts := [], laidByText := true, laidKinds := [.data, .data, .widerDeep, .widerDeep, .data, .data, .data, .data, .data, .sentinel, .sentinel, .pinned, .pinned], laidTests := true, laidLooks := .later }
def TreeSamesUptoCardSaid : Prop := Claim7.holds Tryz.pinned (.plain (OpenSpec.upto treeSamesSpec)) treeSamesUptoCard

/-- THE SECOND FORM's CARD OF 'weirlaw12.TreeMaps'. -/
def treeMapsUptoCard : Claim7 := { stood := { row := treeMapsUptoRow, standIns := [], harness := (true, "1843f43099b65399e3e46db26c302292b1d50261b7d0b9784a0fc322c666a03a"), looks := true }, kinds := [], alts := [], laidByText := true, laidKinds := [.data, .data, .widerDeep, .widerDeep, .data, .data, .data, .data, .data, .sentinel, .sentinel, .pinned, .pinned], laidTests := true, laidLooks := .later }
def TreeMapsUptoCardSaid : Prop := Claim7.holds Tryz.pinned (.plain (OpenSpec.upto treeMapsSpec)) treeMapsUptoCard
end Rows
end Go.Proofs.YtcdoilkjmjbgmaaGreatDoor
