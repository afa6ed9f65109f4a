/-
  DERIVED. GIVEN WITH THE SEED: THE CARDS: each row of YtnfiilgdjpdlkaaGreatDoorRows.lean that lists a variable, with what it lists TIED to the program's text (the seventh form; the later family's looks); each row that meets fmt, with fmt's text TOLD by the authors' own Lean function (tested against real Go, not proved from fmt's source: count such statements apart). THE CARD IS WHAT COUNTS. Prove the row's statement (the work); the ties are given (YtnfiilgdjpdlkaaGreatDoorTie.lean); close each card by the builder's one call (the guide's Derived/Test/ToyasCard.lean, 'card_holds'). Laid BY PROGRAM, IN A SANDBOX (cutbox-door.mjs). By AI agents, Wed Nov 11 2026. No macro, syntax, notation, axiom, sorry.
-/
import Derived.Test.YtnfiilgdjpdlkaaGreatDoorRows
import GoSem.ClaimSeven
namespace Go.Proofs.YtnfiilgdjpdlkaaGreatDoor
namespace Rows

/-- THE TIED CARD OF 'jacquardlaw06.TileMatches'. -/
def tileMatchesCard : Claim7 := { stood := { row := tileMatchesRow, standIns := [], harness := (true, "9732ab1b14279bf553faf8a44eb5fc73b73a9fc08cfe3ff81b5719db7d8edd15"), looks := true }, kinds := [], alts := [], laidByText := true, laidKinds := [.listed, .data], laidTests := true, laidLooks := .later }
def TileMatchesCardSaid : Prop := Claim7.holds Tryz.pinned (.plain (OpenSpec.ofChange tileMatchesSpec)) tileMatchesCard

/-- THE TIED CARD OF 'jacquardlaw06.TileRaw'. -/
def tileRawCard : Claim7 := { stood := { row := tileRawRow, standIns := [], harness := (true, "9732ab1b14279bf553faf8a44eb5fc73b73a9fc08cfe3ff81b5719db7d8edd15"), looks := true }, kinds := [], alts := [], laidByText := true, laidKinds := [.listed, .data], laidTests := true, laidLooks := .later }
def TileRawCardSaid : Prop := Claim7.holds Tryz.pinned (.plain (OpenSpec.ofChange tileRawSpec)) tileRawCard

/-- THE TIED CARD OF 'jacquardlaw06.TileAll'. -/
def tileAllCard : Claim7 := { stood := { row := tileAllRow, standIns := [], harness := (true, "9732ab1b14279bf553faf8a44eb5fc73b73a9fc08cfe3ff81b5719db7d8edd15"), looks := true }, kinds := [], alts := [], laidByText := true, laidKinds := [.listed, .data], laidTests := true, laidLooks := .later }
def TileAllCardSaid : Prop := Claim7.holds Tryz.pinned (.plain (OpenSpec.ofChange tileAllSpec)) tileAllCard

/-- THE TIED CARD OF 'jacquardlaw06.TileInner'. -/
def tileInnerCard : Claim7 := { stood := { row := tileInnerRow, standIns := [], harness := (true, "9732ab1b14279bf553faf8a44eb5fc73b73a9fc08cfe3ff81b5719db7d8edd15"), looks := true }, kinds := [], alts := [], laidByText := true, laidKinds := [.listed, .data], laidTests := true, laidLooks := .later }
def TileInnerCardSaid : Prop := Claim7.holds Tryz.pinned (.plain (OpenSpec.ofChange tileInnerSpec)) tileInnerCard

/-- THE TIED CARD OF 'jacquardlaw06.TileMore'. -/
def tileMoreCard : Claim7 := { stood := { row := tileMoreRow, standIns := [], harness := (true, "9732ab1b14279bf553faf8a44eb5fc73b73a9fc08cfe3ff81b5719db7d8edd15"), looks := true }, kinds := [], alts := [], laidByText := true, laidKinds := [.listed, .data], laidTests := true, laidLooks := .later }
def TileMoreCardSaid : Prop := Claim7.holds Tryz.pinned (.plain (OpenSpec.ofChange tileMoreSpec)) tileMoreCard

/-- THE TIED CARD OF 'jacquardlaw06.TileMany'. -/
def tileManyCard : Claim7 := { stood := { row := tileManyRow, standIns := [], harness := (true, "9732ab1b14279bf553faf8a44eb5fc73b73a9fc08cfe3ff81b5719db7d8edd15"), looks := true }, kinds := [], alts := [], laidByText := true, laidKinds := [.listed, .data], laidTests := true, laidLooks := .later }
def TileManyCardSaid : Prop := Claim7.holds Tryz.pinned (.plain (OpenSpec.ofChange tileManySpec)) tileManyCard

/-- THE TIED CARD OF 'jacquardlaw06.TileTemps'. -/
def tileTempsCard : Claim7 := { stood := { row := tileTempsRow, standIns := [], harness := (true, "9732ab1b14279bf553faf8a44eb5fc73b73a9fc08cfe3ff81b5719db7d8edd15"), looks := true }, kinds := [], alts := [], laidByText := true, laidKinds := [.listed, .data], laidTests := true, laidLooks := .later }
def TileTempsCardSaid : Prop := Claim7.holds Tryz.pinned (.plain (OpenSpec.ofChange tileTempsSpec)) tileTempsCard

/-- THE TIED CARD OF 'jacquardlaw06.TileMeans'. -/
def tileMeansCard : Claim7 := { stood := { row := tileMeansRow, standIns := [], harness := (true, "9732ab1b14279bf553faf8a44eb5fc73b73a9fc08cfe3ff81b5719db7d8edd15"), looks := true }, kinds := [], alts := [], laidByText := true, laidKinds := [.listed, .data], laidTests := true, laidLooks := .later }
def TileMeansCardSaid : Prop := Claim7.holds Tryz.pinned (.plain (OpenSpec.ofChange tileMeansSpec)) tileMeansCard

/-- THE SECOND FORM's CARD OF 'jacquardlaw06.TileMatches'. -/
def tileMatchesUptoCard : Claim7 := { stood := { row := tileMatchesUptoRow, standIns := [], harness := (true, "9732ab1b14279bf553faf8a44eb5fc73b73a9fc08cfe3ff81b5719db7d8edd15"), looks := true }, kinds := [], alts := [], laidByText := true, laidKinds := [.listed, .data], laidTests := true, laidLooks := .later }
def TileMatchesUptoCardSaid : Prop := Claim7.holds Tryz.pinned (.plain (OpenSpec.upto tileMatchesSpec)) tileMatchesUptoCard

/-- THE SECOND FORM's CARD OF 'jacquardlaw06.TileRaw'. -/
def tileRawUptoCard : Claim7 := { stood := { row := tileRawUptoRow, standIns := [], harness := (true, "9732ab1b14279bf553faf8a44eb5fc73b73a9fc08cfe3ff81b5719db7d8edd15"), looks := true }, kinds := [], alts := [], laidByText := true, laidKinds := [.listed, .data], laidTests := true, laidLooks := .later }
def TileRawUptoCardSaid : Prop := Claim7.holds Tryz.pinned (.plain (OpenSpec.upto tileRawSpec)) tileRawUptoCard

/-- THE SECOND FORM's CARD OF 'jacquardlaw06.TileAll'. -/
def tileAllUptoCard : Claim7 := { stood := { row := tileAllUptoRow, standIns := [], harness := (true, "9732ab1b14279bf553faf8a44eb5fc73b73a9fc08cfe3ff81b5719db7d8edd15"), looks := true }, kinds := [], alts := [], laidByText := true, laidKinds := [.listed, .data], laidTests := true, laidLooks := .later }
def TileAllUptoCardSaid : Prop := Claim7.holds Tryz.pinned (.plain (OpenSpec.upto tileAllSpec)) tileAllUptoCard

/-- THE SECOND FORM's CARD OF 'jacquardlaw06.TileInner'. -/
def tileInnerUptoCard : Claim7 := { stood := { row := tileInnerUptoRow, standIns := [], harness := (true, "9732ab1b14279bf553faf8a44eb5fc73b73a9fc08cfe3ff81b5719db7d8edd15"), looks := true }, kinds := [], alts := [], laidByText := true, laidKinds := [.listed, .data], laidTests := true, laidLooks := .later }
def TileInnerUptoCardSaid : Prop := Claim7.holds Tryz.pinned (.plain (OpenSpec.upto tileInnerSpec)) tileInnerUptoCard

/-- THE SECOND FORM's CARD OF 'jacquardlaw06.TileMore'. -/
def tileMoreUptoCard : Claim7 := { stood := { row := tileMoreUptoRow, standIns := [], harness := (true, "9732ab1b14279bf553faf8a44eb5fc73b73a9fc08cfe3ff81b5719db7d8edd15"), looks := true }, kinds := [], alts := [], laidByText := true, laidKinds := [.listed, .data], laidTests := true, laidLooks := .later }
def TileMoreUptoCardSaid : Prop := Claim7.holds Tryz.pinned (.plain (OpenSpec.upto tileMoreSpec)) tileMoreUptoCard

/-- THE SECOND FORM's CARD OF 'jacquardlaw06.TileMany'. -/
def tileManyUptoCard : Claim7 := { stood := { row := tileManyUptoRow, standIns := [], harness := (true, "9732ab1b14279bf553faf8a44eb5fc73b73a9fc08cfe3ff81b5719db7d8edd15"), looks := true }, kinds := [], alts := [], laidByText := true, laidKinds := [.listed, .data], laidTests := true, laidLooks := .later }
def TileManyUptoCardSaid : Prop := Claim7.holds Tryz.pinned (.plain (OpenSpec.upto tileManySpec)) tileManyUptoCard

/-- THE SECOND FORM's CARD OF 'jacquardlaw06.TileTemps'. -/
def tileTempsUptoCard : Claim7 := { stood := { row := tileTempsUptoRow, standIns := [], harness := (true, "9732ab1b14279bf553faf8a44eb5fc73b73a9fc08cfe3ff81b5719db7d8edd15"), looks := true }, kinds := [], alts := [], laidByText := true, laidKinds := [.listed, .data], laidTests := true, laidLooks := .later }
def TileTempsUptoCardSaid : Prop := Claim7.holds Tryz.pinned (.plain (OpenSpec.upto tileTempsSpec)) tileTempsUptoCard

/-- THE SECOND FORM's CARD OF 'jacquardlaw06.TileMeans'. -/
def tileMeansUptoCard : Claim7 := { stood := { row := tileMeansUptoRow, standIns := [], harness := (true, "9732ab1b14279bf553faf8a44eb5fc73b73a9fc08cfe3ff81b5719db7d8edd15"), looks := true }, kinds := [], alts := [], laidByText := true, laidKinds := [.listed, .data], laidTests := true, laidLooks := .later }
def TileMeansUptoCardSaid : Prop := Claim7.holds Tryz.pinned (.plain (OpenSpec.upto tileMeansSpec)) tileMeansUptoCard
end Rows
end Go.Proofs.YtnfiilgdjpdlkaaGreatDoor
