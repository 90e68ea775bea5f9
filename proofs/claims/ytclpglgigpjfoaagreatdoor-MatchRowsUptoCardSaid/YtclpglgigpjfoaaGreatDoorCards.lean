/-
  DERIVED. GIVEN WITH THE SEED: THE CARDS: each row of YtclpglgigpjfoaaGreatDoorRows.lean that lists a variable, with what it lists TIED to the program's text (the seventh form; the later family's looks); each row that meets fmt, with fmt's text TOLD by the authors' own Lean function (tested against real Go, not proved from fmt's source: count such statements apart). THE CARD IS WHAT COUNTS. Prove the row's statement (the work); the ties are given (YtclpglgigpjfoaaGreatDoorTie.lean); close each card by the builder's one call (the guide's Derived/Test/ToyasCard.lean, 'card_holds'). Laid BY PROGRAM, IN A SANDBOX (cutbox-door.mjs). By AI agents, Wed Nov 11 2026. No macro, syntax, notation, axiom, sorry.
-/
import Derived.Test.YtclpglgigpjfoaaGreatDoorRows
import GoSem.ClaimSeven
namespace Go.Proofs.YtclpglgigpjfoaaGreatDoor
namespace Rows

/-- THE TIED CARD OF 'tidegatelaw17.MatchChecks'. -/
def matchChecksCard : Claim7 := { stood := { row := matchChecksRow, standIns := [], harness := (true, "97c30c622e8c4fe6ecb1f1ddab8ea51bc3d229b9f7a76680c51298e17f44672c"), looks := false }, kinds := [], alts := [], laidByText := true, laidKinds := [.data, .data, .data], laidTests := true, laidLooks := .later }
def MatchChecksCardSaid : Prop := Claim7.holds Tryz.pinned (.plain (OpenSpec.ofChange matchChecksSpec)) matchChecksCard

/-- THE TIED CARD OF 'tidegatelaw17.MatchSorts'. -/
def matchSortsCard : Claim7 := { stood := { row := matchSortsRow, standIns := [], harness := (true, "97c30c622e8c4fe6ecb1f1ddab8ea51bc3d229b9f7a76680c51298e17f44672c"), looks := false }, kinds := [], alts := [], laidByText := true, laidKinds := [.data, .data, .data], laidTests := true, laidLooks := .later }
def MatchSortsCardSaid : Prop := Claim7.holds Tryz.pinned (.plain (OpenSpec.ofChange matchSortsSpec)) matchSortsCard

/-- THE TIED CARD OF 'tidegatelaw17.MatchEnvs'. -/
def matchEnvsCard : Claim7 := { stood := { row := matchEnvsRow, standIns := [], harness := (true, "97c30c622e8c4fe6ecb1f1ddab8ea51bc3d229b9f7a76680c51298e17f44672c"), looks := false }, kinds := [], alts := [], laidByText := true, laidKinds := [.data, .data, .data], laidTests := true, laidLooks := .later }
def MatchEnvsCardSaid : Prop := Claim7.holds Tryz.pinned (.plain (OpenSpec.ofChange matchEnvsSpec)) matchEnvsCard

/-- THE TIED CARD OF 'tidegatelaw17.MatchTexts'. -/
def matchTextsCard : Claim7 := { stood := { row := matchTextsRow, standIns := [], harness := (true, "97c30c622e8c4fe6ecb1f1ddab8ea51bc3d229b9f7a76680c51298e17f44672c"), looks := false }, kinds := [], alts := [], laidByText := true, laidKinds := [.data, .data, .data], laidTests := true, laidLooks := .later }
def MatchTextsCardSaid : Prop := Claim7.holds Tryz.pinned (.plain (OpenSpec.ofChange matchTextsSpec)) matchTextsCard

/-- THE TIED CARD OF 'tidegatelaw17.MatchSets'. -/
def matchSetsCard : Claim7 := { stood := { row := matchSetsRow, standIns := [], harness := (true, "97c30c622e8c4fe6ecb1f1ddab8ea51bc3d229b9f7a76680c51298e17f44672c"), looks := false }, kinds := [], alts := [], laidByText := true, laidKinds := [.data, .data, .data], laidTests := true, laidLooks := .later }
def MatchSetsCardSaid : Prop := Claim7.holds Tryz.pinned (.plain (OpenSpec.ofChange matchSetsSpec)) matchSetsCard

/-- THE TIED CARD OF 'tidegatelaw17.MatchRecovers'. -/
def matchRecoversCard : Claim7 := { stood := { row := matchRecoversRow, standIns := [], harness := (true, "97c30c622e8c4fe6ecb1f1ddab8ea51bc3d229b9f7a76680c51298e17f44672c"), looks := false }, kinds := [], alts := [], laidByText := true, laidKinds := [.data, .data, .data], laidTests := true, laidLooks := .later }
def MatchRecoversCardSaid : Prop := Claim7.holds Tryz.pinned (.plain (OpenSpec.ofChange matchRecoversSpec)) matchRecoversCard

/-- THE TIED CARD OF 'tidegatelaw17.MatchRows'. -/
def matchRowsCard : Claim7 := { stood := { row := matchRowsRow, standIns := [], harness := (true, "97c30c622e8c4fe6ecb1f1ddab8ea51bc3d229b9f7a76680c51298e17f44672c"), looks := false }, kinds := [], alts := [], laidByText := true, laidKinds := [.data, .data, .data], laidTests := true, laidLooks := .later }
def MatchRowsCardSaid : Prop := Claim7.holds Tryz.pinned (.plain (OpenSpec.ofChange matchRowsSpec)) matchRowsCard

/-- THE SECOND FORM's CARD OF 'tidegatelaw17.MatchChecks'. -/
def matchChecksUptoCard : Claim7 := { stood := { row := matchChecksUptoRow, standIns := [], harness := (true, "97c30c622e8c4fe6ecb1f1ddab8ea51bc3d229b9f7a76680c51298e17f44672c"), looks := false }, kinds := [], alts := [], laidByText := true, laidKinds := [.data, .data, .data], laidTests := true, laidLooks := .later }
def MatchChecksUptoCardSaid : Prop := Claim7.holds Tryz.pinned (.plain (OpenSpec.upto matchChecksSpec)) matchChecksUptoCard

/-- THE SECOND FORM's CARD OF 'tidegatelaw17.MatchSorts'. -/
def matchSortsUptoCard : Claim7 := { stood := { row := matchSortsUptoRow, standIns := [], harness := (true, "97c30c622e8c4fe6ecb1f1ddab8ea51bc3d229b9f7a76680c51298e17f44672c"), looks := false }, kinds := [], alts := [], laidByText := true, laidKinds := [.data, .data, .data], laidTests := true, laidLooks := .later }
def MatchSortsUptoCardSaid : Prop := Claim7.holds Tryz.pinned (.plain (OpenSpec.upto matchSortsSpec)) matchSortsUptoCard

/-- THE SECOND FORM's CARD OF 'tidegatelaw17.MatchEnvs'. -/
def matchEnvsUptoCard : Claim7 := { stood := { row := matchEnvsUptoRow, standIns := [], harness := (true, "97c30c622e8c4fe6ecb1f1ddab8ea51bc3d229b9f7a76680c51298e17f44672c"), looks := false }, kinds := [], alts := [], laidByText := true, laidKinds := [.data, .data, .data], laidTests := true, laidLooks := .later }
def MatchEnvsUptoCardSaid : Prop := Claim7.holds Tryz.pinned (.plain (OpenSpec.upto matchEnvsSpec)) matchEnvsUptoCard

/-- THE SECOND FORM's CARD OF 'tidegatelaw17.MatchTexts'. -/
def matchTextsUptoCard : Claim7 := { stood := { row := matchTextsUptoRow, standIns := [], harness := (true, "97c30c622e8c4fe6ecb1f1ddab8ea51bc3d229b9f7a76680c51298e17f44672c"), looks := false }, kinds := [], alts := [], laidByText := true, laidKinds := [.data, .data, .data], laidTests := true, laidLooks := .later }
def MatchTextsUptoCardSaid : Prop := Claim7.holds Tryz.pinned (.plain (OpenSpec.upto matchTextsSpec)) matchTextsUptoCard

/-- THE SECOND FORM's CARD OF 'tidegatelaw17.MatchSets'. -/
def matchSetsUptoCard : Claim7 := { stood := { row := matchSetsUptoRow, standIns := [], harness := (true, "97c30c622e8c4fe6ecb1f1ddab8ea51bc3d229b9f7a76680c51298e17f44672c"), looks := false }, kinds := [], alts := [], laidByText := true, laidKinds := [.data, .data, .data], laidTests := true, laidLooks := .later }
def MatchSetsUptoCardSaid : Prop := Claim7.holds Tryz.pinned (.plain (OpenSpec.upto matchSetsSpec)) matchSetsUptoCard

/-- THE SECOND FORM's CARD OF 'tidegatelaw17.MatchRecovers'. -/
def matchRecoversUptoCard : Claim7 := { stood := { row := matchRecoversUptoRow, standIns := [], harness := (true, "97c30c622e8c4fe6ecb1f1ddab8ea51bc3d229b9f7a76680c51298e17f44672c"), looks := false }, kinds := [], alts := [], laidByText := true, laidKinds := [.data, .data, .data], laidTests := true, laidLooks := .later }
def MatchRecoversUptoCardSaid : Prop := Claim7.holds Tryz.pinned (.plain (OpenSpec.upto matchRecoversSpec)) matchRecoversUptoCard

/-- THE SECOND FORM's CARD OF 'tidegatelaw17.MatchRows'. -/
def matchRowsUptoCard : Claim7 := { stood := { row := matchRowsUptoRow, standIns := [], harness := (true, "97c30c622e8c4fe6ecb1f1ddab8ea51bc3d229b9f7a76680c51298e17f44672c"), looks := false }, kinds := [], alts := [], laidByText := true, laidKinds := [.data, .data, .data], laidTests := true, laidLooks := .later }
def MatchRowsUptoCardSaid : Prop := Claim7.holds Tryz.pinned (.plain (OpenSpec.upto matchRowsSpec)) matchRowsUptoCard
end Rows
end Go.Proofs.YtclpglgigpjfoaaGreatDoor
