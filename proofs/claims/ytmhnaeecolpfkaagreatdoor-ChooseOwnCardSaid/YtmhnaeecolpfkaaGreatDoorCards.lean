/-
  DERIVED. GIVEN WITH THE SEED: THE CARDS: each row of YtmhnaeecolpfkaaGreatDoorRows.lean that lists a variable, with what it lists TIED to the program's text (the seventh form; the later family's looks); each row that meets fmt, with fmt's text TOLD by the authors' own Lean function (tested against real Go, not proved from fmt's source: count such statements apart). THE CARD IS WHAT COUNTS. Prove the row's statement (the work); the ties are given (YtmhnaeecolpfkaaGreatDoorTie.lean); close each card by the builder's one call (the guide's Derived/Test/ToyasCard.lean, 'card_holds'). Laid BY PROGRAM, IN A SANDBOX (cutbox-door.mjs). By AI agents, Wed Nov 11 2026. No macro, syntax, notation, axiom, sorry.
-/
import Derived.Test.YtmhnaeecolpfkaaGreatDoorRows
import GoSem.ClaimSeven
namespace Go.Proofs.YtmhnaeecolpfkaaGreatDoor
namespace Rows

/-- THE TIED CARD OF 'jacquardlaw08.ChooseLeast'. -/
def chooseLeastCard : Claim7 := { stood := { row := chooseLeastRow, standIns := [], harness := (true, "f565875f87093908455d97cd5650bf703cc7098119e2e6952d30ccf3edf90645"), looks := true }, kinds := [], alts := [], laidByText := true, laidKinds := [.listed, .data], laidTests := true, laidLooks := .later }
def ChooseLeastCardSaid : Prop := Claim7.holds Tryz.pinned (.plain (OpenSpec.ofChange chooseLeastSpec)) chooseLeastCard

/-- THE TIED CARD OF 'jacquardlaw08.ChooseMore'. -/
def chooseMoreCard : Claim7 := { stood := { row := chooseMoreRow, standIns := [], harness := (true, "f565875f87093908455d97cd5650bf703cc7098119e2e6952d30ccf3edf90645"), looks := true }, kinds := [], alts := [], laidByText := true, laidKinds := [.listed, .data], laidTests := true, laidLooks := .later }
def ChooseMoreCardSaid : Prop := Claim7.holds Tryz.pinned (.plain (OpenSpec.ofChange chooseMoreSpec)) chooseMoreCard

/-- THE TIED CARD OF 'jacquardlaw08.ChooseTimes'. -/
def chooseTimesCard : Claim7 := { stood := { row := chooseTimesRow, standIns := [], harness := (true, "f565875f87093908455d97cd5650bf703cc7098119e2e6952d30ccf3edf90645"), looks := true }, kinds := [], alts := [], laidByText := true, laidKinds := [.listed, .data], laidTests := true, laidLooks := .later }
def ChooseTimesCardSaid : Prop := Claim7.holds Tryz.pinned (.plain (OpenSpec.ofChange chooseTimesSpec)) chooseTimesCard

/-- THE TIED CARD OF 'jacquardlaw08.ChooseOwn'. -/
def chooseOwnCard : Claim7 := { stood := { row := chooseOwnRow, standIns := [], harness := (true, "f565875f87093908455d97cd5650bf703cc7098119e2e6952d30ccf3edf90645"), looks := true }, kinds := [], alts := [], laidByText := true, laidKinds := [.listed, .data], laidTests := true, laidLooks := .later }
def ChooseOwnCardSaid : Prop := Claim7.holds Tryz.pinned (.plain (OpenSpec.ofChange chooseOwnSpec)) chooseOwnCard

/-- THE TIED CARD OF 'jacquardlaw08.ChooseTemps'. -/
def chooseTempsCard : Claim7 := { stood := { row := chooseTempsRow, standIns := [], harness := (true, "f565875f87093908455d97cd5650bf703cc7098119e2e6952d30ccf3edf90645"), looks := true }, kinds := [], alts := [], laidByText := true, laidKinds := [.listed, .data], laidTests := true, laidLooks := .later }
def ChooseTempsCardSaid : Prop := Claim7.holds Tryz.pinned (.plain (OpenSpec.ofChange chooseTempsSpec)) chooseTempsCard

/-- THE TIED CARD OF 'jacquardlaw09.CoverMore'. -/
def coverMoreCard : Claim7 := { stood := { row := coverMoreRow, standIns := [], harness := (true, "f565875f87093908455d97cd5650bf703cc7098119e2e6952d30ccf3edf90645"), looks := true }, kinds := [], alts := [], laidByText := true, laidKinds := [.listed, .data], laidTests := true, laidLooks := .later }
def CoverMoreCardSaid : Prop := Claim7.holds Tryz.pinned (.plain (OpenSpec.ofChange coverMoreSpec)) coverMoreCard

/-- THE TIED CARD OF 'jacquardlaw08.ChooseRuns'. -/
def chooseRunsCard : Claim7 := { stood := { row := chooseRunsRow, standIns := [], harness := (true, "f565875f87093908455d97cd5650bf703cc7098119e2e6952d30ccf3edf90645"), looks := true }, kinds := [], alts := [], laidByText := true, laidKinds := [.listed, .data], laidTests := true, laidLooks := .later }
def ChooseRunsCardSaid : Prop := Claim7.holds Tryz.pinned (.plain (OpenSpec.ofChange chooseRunsSpec)) chooseRunsCard

/-- THE SECOND FORM's CARD OF 'jacquardlaw08.ChooseLeast'. -/
def chooseLeastUptoCard : Claim7 := { stood := { row := chooseLeastUptoRow, standIns := [], harness := (true, "f565875f87093908455d97cd5650bf703cc7098119e2e6952d30ccf3edf90645"), looks := true }, kinds := [], alts := [], laidByText := true, laidKinds := [.listed, .data], laidTests := true, laidLooks := .later }
def ChooseLeastUptoCardSaid : Prop := Claim7.holds Tryz.pinned (.plain (OpenSpec.upto chooseLeastSpec)) chooseLeastUptoCard

/-- THE SECOND FORM's CARD OF 'jacquardlaw08.ChooseMore'. -/
def chooseMoreUptoCard : Claim7 := { stood := { row := chooseMoreUptoRow, standIns := [], harness := (true, "f565875f87093908455d97cd5650bf703cc7098119e2e6952d30ccf3edf90645"), looks := true }, kinds := [], alts := [], laidByText := true, laidKinds := [.listed, .data], laidTests := true, laidLooks := .later }
def ChooseMoreUptoCardSaid : Prop := Claim7.holds Tryz.pinned (.plain (OpenSpec.upto chooseMoreSpec)) chooseMoreUptoCard

/-- THE SECOND FORM's CARD OF 'jacquardlaw08.ChooseTimes'. -/
def chooseTimesUptoCard : Claim7 := { stood := { row := chooseTimesUptoRow, standIns := [], harness := (true, "f565875f87093908455d97cd5650bf703cc7098119e2e6952d30ccf3edf90645"), looks := true }, kinds := [], alts := [], laidByText := true, laidKinds := [.listed, .data], laidTests := true, laidLooks := .later }
def ChooseTimesUptoCardSaid : Prop := Claim7.holds Tryz.pinned (.plain (OpenSpec.upto chooseTimesSpec)) chooseTimesUptoCard

/-- THE SECOND FORM's CARD OF 'jacquardlaw08.ChooseOwn'. -/
def chooseOwnUptoCard : Claim7 := { stood := { row := chooseOwnUptoRow, standIns := [], harness := (true, "f565875f87093908455d97cd5650bf703cc7098119e2e6952d30ccf3edf90645"), looks := true }, kinds := [], alts := [], laidByText := true, laidKinds := [.listed, .data], laidTests := true, laidLooks := .later }
def ChooseOwnUptoCardSaid : Prop := Claim7.holds Tryz.pinned (.plain (OpenSpec.upto chooseOwnSpec)) chooseOwnUptoCard

/-- THE SECOND FORM's CARD OF 'jacquardlaw08.ChooseTemps'. -/
def chooseTempsUptoCard : Claim7 := { stood := { row := chooseTempsUptoRow, standIns := [], harness := (true, "f565875f87093908455d97cd5650bf703cc7098119e2e6952d30ccf3edf90645"), looks := true }, kinds := [], alts := [], laidByText := true, laidKinds := [.listed, .data], laidTests := true, laidLooks := .later }
def ChooseTempsUptoCardSaid : Prop := Claim7.holds Tryz.pinned (.plain (OpenSpec.upto chooseTempsSpec)) chooseTempsUptoCard

/-- THE SECOND FORM's CARD OF 'jacquardlaw09.CoverMore'. -/
def coverMoreUptoCard : Claim7 := { stood := { row := coverMoreUptoRow, standIns := [], harness := (true, "f565875f87093908455d97cd5650bf703cc7098119e2e6952d30ccf3edf90645"), looks := true }, kinds := [], alts := [], laidByText := true, laidKinds := [.listed, .data], laidTests := true, laidLooks := .later }
def CoverMoreUptoCardSaid : Prop := Claim7.holds Tryz.pinned (.plain (OpenSpec.upto coverMoreSpec)) coverMoreUptoCard

/-- THE SECOND FORM's CARD OF 'jacquardlaw08.ChooseRuns'. -/
def chooseRunsUptoCard : Claim7 := { stood := { row := chooseRunsUptoRow, standIns := [], harness := (true, "f565875f87093908455d97cd5650bf703cc7098119e2e6952d30ccf3edf90645"), looks := true }, kinds := [], alts := [], laidByText := true, laidKinds := [.listed, .data], laidTests := true, laidLooks := .later }
def ChooseRunsUptoCardSaid : Prop := Claim7.holds Tryz.pinned (.plain (OpenSpec.upto chooseRunsSpec)) chooseRunsUptoCard
end Rows
end Go.Proofs.YtmhnaeecolpfkaaGreatDoor
