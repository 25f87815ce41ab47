/-
  DERIVED. GIVEN WITH THE SEED: THE CARDS: each row of YtggpejjfgphihaaDoorRows.lean that lists a variable, with what it lists TIED to the program's text (the seventh form; the later family's looks); each row that meets fmt, with fmt's text TOLD by the authors' own Lean function (tested against real Go, not proved from fmt's source: count such statements apart). THE CARD IS WHAT COUNTS. Prove the row's statement (the work); the ties are given (YtggpejjfgphihaaDoorTie.lean); close each card by the builder's one call (the guide's Derived/Test/ToyasCard.lean, 'card_holds'). Laid BY PROGRAM, IN A SANDBOX (cutbox-door.mjs). By AI agents, Wed Nov 11 2026. No macro, syntax, notation, axiom, sorry.
-/
import Derived.Test.YtggpejjfgphihaaDoorRows
import GoSem.ClaimSeven
namespace Go.Proofs.YtggpejjfgphihaaDoor
namespace Rows

/-- THE TIED CARD OF 'marlinelaw08.ConfigTells'. -/
def configTellsCard : Claim7 := { stood := { row := configTellsRow, standIns := [], harness := (true, "4954a06c198d92b0077a70ba7deb1f30f099a3f0e8b3cbb1ef23c47ab01658f0"), looks := false }, kinds := [], alts := [], laidByText := true, laidKinds := [.data, .data], laidTests := true, laidLooks := .later }
def ConfigTellsCardSaid : Prop := Claim7.holds Tryd.pinned (.plain (OpenSpec.ofChange configTellsSpec)) configTellsCard

/-- THE TIED CARD OF 'marlinelaw08.ConfigFits'. -/
def configFitsCard : Claim7 := { stood := { row := configFitsRow, standIns := [], harness := (true, "4954a06c198d92b0077a70ba7deb1f30f099a3f0e8b3cbb1ef23c47ab01658f0"), looks := false }, kinds := [], alts := [], laidByText := true, laidKinds := [.data, .data], laidTests := true, laidLooks := .later }
def ConfigFitsCardSaid : Prop := Claim7.holds Tryd.pinned (.plain (OpenSpec.ofChange configFitsSpec)) configFitsCard

/-- THE TIED CARD OF 'marlinelaw02.FcsSums2'. -/
def fcsSums2Card : Claim7 := { stood := { row := fcsSums2Row, standIns := [], harness := (true, "4954a06c198d92b0077a70ba7deb1f30f099a3f0e8b3cbb1ef23c47ab01658f0"), looks := false }, kinds := [], alts := [], laidByText := true, laidKinds := [.data, .data], laidTests := true, laidLooks := .later }
def FcsSums2CardSaid : Prop := Claim7.holds Tryd.pinned (.plain (OpenSpec.ofChange fcsSums2Spec)) fcsSums2Card

/-- THE TIED CARD OF 'marlinelaw10.HeadTells'. -/
def headTellsCard : Claim7 := { stood := { row := headTellsRow, standIns := [], harness := (true, "4954a06c198d92b0077a70ba7deb1f30f099a3f0e8b3cbb1ef23c47ab01658f0"), looks := false }, kinds := [], alts := [], laidByText := true, laidKinds := [.data], laidTests := true, laidLooks := .later }
def HeadTellsCardSaid : Prop := Claim7.holds Tryd.pinned (.plain (OpenSpec.ofChange headTellsSpec)) headTellsCard

/-- THE TIED CARD OF 'marlinelaw10.HeadOne'. -/
def headOneCard : Claim7 := { stood := { row := headOneRow, standIns := [], harness := (true, "4954a06c198d92b0077a70ba7deb1f30f099a3f0e8b3cbb1ef23c47ab01658f0"), looks := false }, kinds := [], alts := [], laidByText := true, laidKinds := [.data], laidTests := true, laidLooks := .later }
def HeadOneCardSaid : Prop := Claim7.holds Tryd.pinned (.plain (OpenSpec.ofChange headOneSpec)) headOneCard

/-- THE TIED CARD OF 'marlinelaw02.FcsMore'. -/
def fcsMoreCard : Claim7 := { stood := { row := fcsMoreRow, standIns := [], harness := (true, "4954a06c198d92b0077a70ba7deb1f30f099a3f0e8b3cbb1ef23c47ab01658f0"), looks := false }, kinds := [], alts := [], laidByText := true, laidKinds := [.data, .data], laidTests := true, laidLooks := .later }
def FcsMoreCardSaid : Prop := Claim7.holds Tryd.pinned (.plain (OpenSpec.ofChange fcsMoreSpec)) fcsMoreCard

/-- THE TIED CARD OF 'marlinelaw02.FcsResidue'. -/
def fcsResidueCard : Claim7 := { stood := { row := fcsResidueRow, standIns := [], harness := (true, "4954a06c198d92b0077a70ba7deb1f30f099a3f0e8b3cbb1ef23c47ab01658f0"), looks := false }, kinds := [], alts := [], laidByText := true, laidKinds := [.data, .data], laidTests := true, laidLooks := .later }
def FcsResidueCardSaid : Prop := Claim7.holds Tryd.pinned (.plain (OpenSpec.ofChange fcsResidueSpec)) fcsResidueCard

/-- THE TIED CARD OF 'marlinelaw02.FcsBursts'. -/
def fcsBurstsCard : Claim7 := { stood := { row := fcsBurstsRow, standIns := [], harness := (true, "4954a06c198d92b0077a70ba7deb1f30f099a3f0e8b3cbb1ef23c47ab01658f0"), looks := false }, kinds := [], alts := [], laidByText := true, laidKinds := [.data, .data], laidTests := true, laidLooks := .later }
def FcsBurstsCardSaid : Prop := Claim7.holds Tryd.pinned (.plain (OpenSpec.ofChange fcsBurstsSpec)) fcsBurstsCard

/-- THE TIED CARD OF 'marlinelaw02.FcsSums'. -/
def fcsSumsCard : Claim7 := { stood := { row := fcsSumsRow, standIns := [], harness := (true, "4954a06c198d92b0077a70ba7deb1f30f099a3f0e8b3cbb1ef23c47ab01658f0"), looks := false }, kinds := [], alts := [], laidByText := true, laidKinds := [.data, .data], laidTests := true, laidLooks := .later }
def FcsSumsCardSaid : Prop := Claim7.holds Tryd.pinned (.plain (OpenSpec.ofChange fcsSumsSpec)) fcsSumsCard

/-- THE TIED CARD OF 'marlinelaw10.HeadBack'. -/
def headBackCard : Claim7 := { stood := { row := headBackRow, standIns := [], harness := (true, "4954a06c198d92b0077a70ba7deb1f30f099a3f0e8b3cbb1ef23c47ab01658f0"), looks := false }, kinds := [], alts := [], laidByText := true, laidKinds := [.data], laidTests := true, laidLooks := .later }
def HeadBackCardSaid : Prop := Claim7.holds Tryd.pinned (.plain (OpenSpec.ofChange headBackSpec)) headBackCard

/-- THE TIED CARD OF 'marlinelaw11.FrameSpoils'. -/
def frameSpoilsCard : Claim7 := { stood := { row := frameSpoilsRow, standIns := [], harness := (true, "4954a06c198d92b0077a70ba7deb1f30f099a3f0e8b3cbb1ef23c47ab01658f0"), looks := false }, kinds := [], alts := [], laidByText := true, laidKinds := [.data, .data, .data], laidTests := true, laidLooks := .later }
def FrameSpoilsCardSaid : Prop := Claim7.holds Tryd.pinned (.plain (OpenSpec.ofChange frameSpoilsSpec)) frameSpoilsCard

/-- THE TIED CARD OF 'marlinelaw11.FrameParts'. -/
def framePartsCard : Claim7 := { stood := { row := framePartsRow, standIns := [], harness := (true, "4954a06c198d92b0077a70ba7deb1f30f099a3f0e8b3cbb1ef23c47ab01658f0"), looks := false }, kinds := [], alts := [], laidByText := true, laidKinds := [.data, .data, .data], laidTests := true, laidLooks := .later }
def FramePartsCardSaid : Prop := Claim7.holds Tryd.pinned (.plain (OpenSpec.ofChange framePartsSpec)) framePartsCard

/-- THE TIED CARD OF 'marlinelaw11.FrameBack'. -/
def frameBackCard : Claim7 := { stood := { row := frameBackRow, standIns := [], harness := (true, "4954a06c198d92b0077a70ba7deb1f30f099a3f0e8b3cbb1ef23c47ab01658f0"), looks := false }, kinds := [], alts := [], laidByText := true, laidKinds := [.data, .data, .data], laidTests := true, laidLooks := .later }
def FrameBackCardSaid : Prop := Claim7.holds Tryd.pinned (.plain (OpenSpec.ofChange frameBackSpec)) frameBackCard

/-- THE TIED CARD OF 'marlinelaw11.FrameTells'. -/
def frameTellsCard : Claim7 := { stood := { row := frameTellsRow, standIns := [], harness := (true, "4954a06c198d92b0077a70ba7deb1f30f099a3f0e8b3cbb1ef23c47ab01658f0"), looks := false }, kinds := [], alts := [], laidByText := true, laidKinds := [.data, .data, .data], laidTests := true, laidLooks := .later }
def FrameTellsCardSaid : Prop := Claim7.holds Tryd.pinned (.plain (OpenSpec.ofChange frameTellsSpec)) frameTellsCard

/-- THE SECOND FORM's CARD OF 'marlinelaw08.ConfigTells'. -/
def configTellsUptoCard : Claim7 := { stood := { row := configTellsUptoRow, standIns := [], harness := (true, "4954a06c198d92b0077a70ba7deb1f30f099a3f0e8b3cbb1ef23c47ab01658f0"), looks := false }, kinds := [], alts := [], laidByText := true, laidKinds := [.data, .data], laidTests := true, laidLooks := .later }
def ConfigTellsUptoCardSaid : Prop := Claim7.holds Tryd.pinned (.plain (OpenSpec.upto configTellsSpec)) configTellsUptoCard

/-- THE SECOND FORM's CARD OF 'marlinelaw08.ConfigFits'. -/
def configFitsUptoCard : Claim7 := { stood := { row := configFitsUptoRow, standIns := [], harness := (true, "4954a06c198d92b0077a70ba7deb1f30f099a3f0e8b3cbb1ef23c47ab01658f0"), looks := false }, kinds := [], alts := [], laidByText := true, laidKinds := [.data, .data], laidTests := true, laidLooks := .later }
def ConfigFitsUptoCardSaid : Prop := Claim7.holds Tryd.pinned (.plain (OpenSpec.upto configFitsSpec)) configFitsUptoCard

/-- THE SECOND FORM's CARD OF 'marlinelaw02.FcsSums2'. -/
def fcsSums2UptoCard : Claim7 := { stood := { row := fcsSums2UptoRow, standIns := [], harness := (true, "4954a06c198d92b0077a70ba7deb1f30f099a3f0e8b3cbb1ef23c47ab01658f0"), looks := false }, kinds := [], alts := [], laidByText := true, laidKinds := [.data, .data], laidTests := true, laidLooks := .later }
def FcsSums2UptoCardSaid : Prop := Claim7.holds Tryd.pinned (.plain (OpenSpec.upto fcsSums2Spec)) fcsSums2UptoCard

/-- THE SECOND FORM's CARD OF 'marlinelaw10.HeadTells'. -/
def headTellsUptoCard : Claim7 := { stood := { row := headTellsUptoRow, standIns := [], harness := (true, "4954a06c198d92b0077a70ba7deb1f30f099a3f0e8b3cbb1ef23c47ab01658f0"), looks := false }, kinds := [], alts := [], laidByText := true, laidKinds := [.data], laidTests := true, laidLooks := .later }
def HeadTellsUptoCardSaid : Prop := Claim7.holds Tryd.pinned (.plain (OpenSpec.upto headTellsSpec)) headTellsUptoCard

/-- THE SECOND FORM's CARD OF 'marlinelaw10.HeadOne'. -/
def headOneUptoCard : Claim7 := { stood := { row := headOneUptoRow, standIns := [], harness := (true, "4954a06c198d92b0077a70ba7deb1f30f099a3f0e8b3cbb1ef23c47ab01658f0"), looks := false }, kinds := [], alts := [], laidByText := true, laidKinds := [.data], laidTests := true, laidLooks := .later }
def HeadOneUptoCardSaid : Prop := Claim7.holds Tryd.pinned (.plain (OpenSpec.upto headOneSpec)) headOneUptoCard

/-- THE SECOND FORM's CARD OF 'marlinelaw02.FcsMore'. -/
def fcsMoreUptoCard : Claim7 := { stood := { row := fcsMoreUptoRow, standIns := [], harness := (true, "4954a06c198d92b0077a70ba7deb1f30f099a3f0e8b3cbb1ef23c47ab01658f0"), looks := false }, kinds := [], alts := [], laidByText := true, laidKinds := [.data, .data], laidTests := true, laidLooks := .later }
def FcsMoreUptoCardSaid : Prop := Claim7.holds Tryd.pinned (.plain (OpenSpec.upto fcsMoreSpec)) fcsMoreUptoCard

/-- THE SECOND FORM's CARD OF 'marlinelaw02.FcsResidue'. -/
def fcsResidueUptoCard : Claim7 := { stood := { row := fcsResidueUptoRow, standIns := [], harness := (true, "4954a06c198d92b0077a70ba7deb1f30f099a3f0e8b3cbb1ef23c47ab01658f0"), looks := false }, kinds := [], alts := [], laidByText := true, laidKinds := [.data, .data], laidTests := true, laidLooks := .later }
def FcsResidueUptoCardSaid : Prop := Claim7.holds Tryd.pinned (.plain (OpenSpec.upto fcsResidueSpec)) fcsResidueUptoCard

/-- THE SECOND FORM's CARD OF 'marlinelaw02.FcsBursts'. -/
def fcsBurstsUptoCard : Claim7 := { stood := { row := fcsBurstsUptoRow, standIns := [], harness := (true, "4954a06c198d92b0077a70ba7deb1f30f099a3f0e8b3cbb1ef23c47ab01658f0"), looks := false }, kinds := [], alts := [], laidByText := true, laidKinds := [.data, .data], laidTests := true, laidLooks := .later }
def FcsBurstsUptoCardSaid : Prop := Claim7.holds Tryd.pinned (.plain (OpenSpec.upto fcsBurstsSpec)) fcsBurstsUptoCard

/-- THE SECOND FORM's CARD OF 'marlinelaw02.FcsSums'. -/
def fcsSumsUptoCard : Claim7 := { stood := { row := fcsSumsUptoRow, standIns := [], harness := (true, "4954a06c198d92b0077a70ba7deb1f30f099a3f0e8b3cbb1ef23c47ab01658f0"), looks := false }, kinds := [], alts := [], laidByText := true, laidKinds := [.data, .data], laidTests := true, laidLooks := .later }
def FcsSumsUptoCardSaid : Prop := Claim7.holds Tryd.pinned (.plain (OpenSpec.upto fcsSumsSpec)) fcsSumsUptoCard

/-- THE SECOND FORM's CARD OF 'marlinelaw10.HeadBack'. -/
def headBackUptoCard : Claim7 := { stood := { row := headBackUptoRow, standIns := [], harness := (true, "4954a06c198d92b0077a70ba7deb1f30f099a3f0e8b3cbb1ef23c47ab01658f0"), looks := false }, kinds := [], alts := [], laidByText := true, laidKinds := [.data], laidTests := true, laidLooks := .later }
def HeadBackUptoCardSaid : Prop := Claim7.holds Tryd.pinned (.plain (OpenSpec.upto headBackSpec)) headBackUptoCard

/-- THE SECOND FORM's CARD OF 'marlinelaw11.FrameSpoils'. -/
def frameSpoilsUptoCard : Claim7 := { stood := { row := frameSpoilsUptoRow, standIns := [], harness := (true, "4954a06c198d92b0077a70ba7deb1f30f099a3f0e8b3cbb1ef23c47ab01658f0"), looks := false }, kinds := [], alts := [], laidByText := true, laidKinds := [.data, .data, .data], laidTests := true, laidLooks := .later }
def FrameSpoilsUptoCardSaid : Prop := Claim7.holds Tryd.pinned (.plain (OpenSpec.upto frameSpoilsSpec)) frameSpoilsUptoCard

/-- THE SECOND FORM's CARD OF 'marlinelaw11.FrameParts'. -/
def framePartsUptoCard : Claim7 := { stood := { row := framePartsUptoRow, standIns := [], harness := (true, "4954a06c198d92b0077a70ba7deb1f30f099a3f0e8b3cbb1ef23c47ab01658f0"), looks := false }, kinds := [], alts := [], laidByText := true, laidKinds := [.data, .data, .data], laidTests := true, laidLooks := .later }
def FramePartsUptoCardSaid : Prop := Claim7.holds Tryd.pinned (.plain (OpenSpec.upto framePartsSpec)) framePartsUptoCard

/-- THE SECOND FORM's CARD OF 'marlinelaw11.FrameBack'. -/
def frameBackUptoCard : Claim7 := { stood := { row := frameBackUptoRow, standIns := [], harness := (true, "4954a06c198d92b0077a70ba7deb1f30f099a3f0e8b3cbb1ef23c47ab01658f0"), looks := false }, kinds := [], alts := [], laidByText := true, laidKinds := [.data, .data, .data], laidTests := true, laidLooks := .later }
def FrameBackUptoCardSaid : Prop := Claim7.holds Tryd.pinned (.plain (OpenSpec.upto frameBackSpec)) frameBackUptoCard

/-- THE SECOND FORM's CARD OF 'marlinelaw11.FrameTells'. -/
def frameTellsUptoCard : Claim7 := { stood := { row := frameTellsUptoRow, standIns := [], harness := (true, "4954a06c198d92b0077a70ba7deb1f30f099a3f0e8b3cbb1ef23c47ab01658f0"), looks := false }, kinds := [], alts := [], laidByText := true, laidKinds := [.data, .data, .data], laidTests := true, laidLooks := .later }
def FrameTellsUptoCardSaid : Prop := Claim7.holds Tryd.pinned (.plain (OpenSpec.upto frameTellsSpec)) frameTellsUptoCard
end Rows
end Go.Proofs.YtggpejjfgphihaaDoor
