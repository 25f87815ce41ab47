/-
  NARROWER THAN 'FOR EVERY INPUT', by the rows' own cells (each row's printed sentence says how): ConfigTells: laid · ConfigFits: laid · FcsSums2: laid · HeadTells: laid · HeadOne: laid · FcsMore: laid · FcsResidue: laid · FcsBursts: laid · FcsSums: laid · HeadBack: laid · FrameSpoils: laid · FrameParts: laid · FrameBack: laid · FrameTells: laid.
  DERIVED. THE GIVEN ROWS OF THIS SEAT. 14 by the template 'for every input the law returns true; each argument reads behind the call as it read before'; 0 by the template 'total and deterministic' (their statements: YtggpejjfgphihaaDoorTotals.lean).
  GIVEN WITH THE SEED: the statements are not yours to turn. If you find one false, say at which input.
  Laid BY PROGRAM, IN A SANDBOX (cutbox-rows.mjs): the forced cells as the released guide's own fill.sh prints them over the translation f7672cd78803df81… (all of the seat's roots in one cut). By AI agents, Wed Nov 11 2026. No macro, syntax, notation, axiom, sorry.
-/
import Derived.Test.YtggpejjfgphihaaDoorChecked
import GoSem.Claim
import GoSem.ClaimJoined
import GoSem.ClaimMapViews
import Derived.JoinedTies
import Derived.KernelRfl
namespace Go.Proofs.YtggpejjfgphihaaDoor
/- THE CELL 'sum', in the pinned program and in every row, IS THE sha256 OF THE DUMP (.gsa) THAT YtggpejjfgphihaaDoorProg.lean LOADS. Nothing in Lean hashes anything: it is a label: what it is worth is what the hold of that sum in a sandbox is worth. -/
noncomputable def Tryd.pinned : Pinned := { name := "ytggpejjfgphihaadoor", sum := "f7672cd78803df811c0440a737a3f32baf59da53223610b575ed5b84441b180c", checked := Tryd.checked }
namespace Rows
def none {H : Type} : Left H := { results := [], args := [] }

/- WHAT THE LISTED PACKAGE-LEVEL VARIABLES READ AS WHEN THE CALL BEGINS. Each datum BY PROGRAM (the guide's laid-datum.mjs) off the statement by which the dump's own 'gosem.cut.vars' lays the variable. In a bare row this is a premise. The card (YtggpejjfgphihaaDoorCards.lean) ties it to the program's text. -/
def laid_marline_fcs_narrow {H : Type} : DataW H := .agg [.lit (.int .u32 33800), .lit (.int .u32 65535), .lit (.int .u32 61624), .lit (.int .i64 2)]
def laid_marline_fcs_wider {H : Type} : DataW H := .agg [.lit (.int .u32 3988292384), .lit (.int .u32 4294967295), .lit (.int .u32 3736805603), .lit (.int .i64 4)]
def laid_marline_head_full {H : Type} : DataW H := .agg [.lit (.int .u8 255), .lit (.int .u8 3)]

/-- 'marlinelaw08.ConfigTells': WHATEVER THE INPUT: true; the input reads as it did. -/
def configTellsSpec : ChangeSpec := { name := "configTells", fn := fun _ => fun
  | [d1, d2] => { results := [.lit (.bool true)], args := [d1, d2] }
  | _ => none }
def configTellsRow : OpenClaim := { program := "ytggpejjfgphihaadoor", sum := "f7672cd78803df811c0440a737a3f32baf59da53223610b575ed5b84441b180c", func := "marline/marlinelaw08.ConfigTells", spec := "configTells", named := ["marline/fcs.wider", "marline/fcs.narrow"], apart := false, laid := [("marline/fcs.narrow", laid_marline_fcs_narrow), ("marline/fcs.wider", laid_marline_fcs_wider)] }
def ConfigTellsSaid : Prop := configTellsRow.holds Tryd.pinned (OpenSpec.ofChange configTellsSpec)

/-- ITS FALSE NEIGHBOUR: 'it returns false'. Refute it at one input. -/
def configTellsWrong : ChangeSpec := { name := "configTells", fn := fun _ => fun
  | [d1, d2] => { results := [.lit (.bool false)], args := [d1, d2] }
  | _ => none }
def ConfigTellsWrongFalsely : Prop := configTellsRow.holds Tryd.pinned (OpenSpec.ofChange configTellsWrong)

/-- 'marlinelaw08.ConfigFits': WHATEVER THE INPUT: true; the input reads as it did. -/
def configFitsSpec : ChangeSpec := { name := "configFits", fn := fun _ => fun
  | [d1, d2, d3] => { results := [.lit (.bool true)], args := [d1, d2, d3] }
  | _ => none }
def configFitsRow : OpenClaim := { program := "ytggpejjfgphihaadoor", sum := "f7672cd78803df811c0440a737a3f32baf59da53223610b575ed5b84441b180c", func := "marline/marlinelaw08.ConfigFits", spec := "configFits", named := ["marline/fcs.wider", "marline/fcs.narrow"], apart := false, laid := [("marline/fcs.narrow", laid_marline_fcs_narrow), ("marline/fcs.wider", laid_marline_fcs_wider)] }
def ConfigFitsSaid : Prop := configFitsRow.holds Tryd.pinned (OpenSpec.ofChange configFitsSpec)

/-- ITS FALSE NEIGHBOUR: 'it returns false'. Refute it at one input. -/
def configFitsWrong : ChangeSpec := { name := "configFits", fn := fun _ => fun
  | [d1, d2, d3] => { results := [.lit (.bool false)], args := [d1, d2, d3] }
  | _ => none }
def ConfigFitsWrongFalsely : Prop := configFitsRow.holds Tryd.pinned (OpenSpec.ofChange configFitsWrong)

/-- 'marlinelaw02.FcsSums2': WHATEVER THE INPUT: true; the input reads as it did. -/
def fcsSums2Spec : ChangeSpec := { name := "fcsSums2", fn := fun _ => fun
  | [d1, d2, d3] => { results := [.lit (.bool true)], args := [d1, d2, d3] }
  | _ => none }
def fcsSums2Row : OpenClaim := { program := "ytggpejjfgphihaadoor", sum := "f7672cd78803df811c0440a737a3f32baf59da53223610b575ed5b84441b180c", func := "marline/marlinelaw02.FcsSums2", spec := "fcsSums2", named := ["marline/fcs.wider", "marline/fcs.narrow"], apart := false, laid := [("marline/fcs.narrow", laid_marline_fcs_narrow), ("marline/fcs.wider", laid_marline_fcs_wider)] }
def FcsSums2Said : Prop := fcsSums2Row.holds Tryd.pinned (OpenSpec.ofChange fcsSums2Spec)

/-- ITS FALSE NEIGHBOUR: 'it returns false'. Refute it at one input. -/
def fcsSums2Wrong : ChangeSpec := { name := "fcsSums2", fn := fun _ => fun
  | [d1, d2, d3] => { results := [.lit (.bool false)], args := [d1, d2, d3] }
  | _ => none }
def FcsSums2WrongFalsely : Prop := fcsSums2Row.holds Tryd.pinned (OpenSpec.ofChange fcsSums2Wrong)

/-- 'marlinelaw10.HeadTells': WHATEVER THE INPUT: true; the input reads as it did. -/
def headTellsSpec : ChangeSpec := { name := "headTells", fn := fun _ => fun
  | [d1, d2, d3] => { results := [.lit (.bool true)], args := [d1, d2, d3] }
  | _ => none }
def headTellsRow : OpenClaim := { program := "ytggpejjfgphihaadoor", sum := "f7672cd78803df811c0440a737a3f32baf59da53223610b575ed5b84441b180c", func := "marline/marlinelaw10.HeadTells", spec := "headTells", inPlace := ["internal/bytealg.Compare"], unfollowed := true, recurses := true, named := ["marline/head.full"], apart := false, laid := [("marline/head.full", laid_marline_head_full)] }
def HeadTellsSaid : Prop := headTellsRow.holds Tryd.pinned (OpenSpec.ofChange headTellsSpec)

/-- ITS FALSE NEIGHBOUR: 'it returns false'. Refute it at one input. -/
def headTellsWrong : ChangeSpec := { name := "headTells", fn := fun _ => fun
  | [d1, d2, d3] => { results := [.lit (.bool false)], args := [d1, d2, d3] }
  | _ => none }
def HeadTellsWrongFalsely : Prop := headTellsRow.holds Tryd.pinned (OpenSpec.ofChange headTellsWrong)

/-- 'marlinelaw10.HeadOne': WHATEVER THE INPUT: true; the input reads as it did. -/
def headOneSpec : ChangeSpec := { name := "headOne", fn := fun _ => fun
  | [d1, d2, d3] => { results := [.lit (.bool true)], args := [d1, d2, d3] }
  | _ => none }
def headOneRow : OpenClaim := { program := "ytggpejjfgphihaadoor", sum := "f7672cd78803df811c0440a737a3f32baf59da53223610b575ed5b84441b180c", func := "marline/marlinelaw10.HeadOne", spec := "headOne", inPlace := ["internal/bytealg.Compare"], unfollowed := true, recurses := true, named := ["marline/head.full"], apart := false, laid := [("marline/head.full", laid_marline_head_full)] }
def HeadOneSaid : Prop := headOneRow.holds Tryd.pinned (OpenSpec.ofChange headOneSpec)

/-- ITS FALSE NEIGHBOUR: 'it returns false'. Refute it at one input. -/
def headOneWrong : ChangeSpec := { name := "headOne", fn := fun _ => fun
  | [d1, d2, d3] => { results := [.lit (.bool false)], args := [d1, d2, d3] }
  | _ => none }
def HeadOneWrongFalsely : Prop := headOneRow.holds Tryd.pinned (OpenSpec.ofChange headOneWrong)

/-- 'marlinelaw02.FcsMore': WHATEVER THE INPUT: true; the input reads as it did. -/
def fcsMoreSpec : ChangeSpec := { name := "fcsMore", fn := fun _ => fun
  | [d1, d2, d3, d4] => { results := [.lit (.bool true)], args := [d1, d2, d3, d4] }
  | _ => none }
def fcsMoreRow : OpenClaim := { program := "ytggpejjfgphihaadoor", sum := "f7672cd78803df811c0440a737a3f32baf59da53223610b575ed5b84441b180c", func := "marline/marlinelaw02.FcsMore", spec := "fcsMore", named := ["marline/fcs.wider", "marline/fcs.narrow"], apart := false, laid := [("marline/fcs.narrow", laid_marline_fcs_narrow), ("marline/fcs.wider", laid_marline_fcs_wider)] }
def FcsMoreSaid : Prop := fcsMoreRow.holds Tryd.pinned (OpenSpec.ofChange fcsMoreSpec)

/-- ITS FALSE NEIGHBOUR: 'it returns false'. Refute it at one input. -/
def fcsMoreWrong : ChangeSpec := { name := "fcsMore", fn := fun _ => fun
  | [d1, d2, d3, d4] => { results := [.lit (.bool false)], args := [d1, d2, d3, d4] }
  | _ => none }
def FcsMoreWrongFalsely : Prop := fcsMoreRow.holds Tryd.pinned (OpenSpec.ofChange fcsMoreWrong)

/-- 'marlinelaw02.FcsResidue': WHATEVER THE INPUT: true; the input reads as it did. -/
def fcsResidueSpec : ChangeSpec := { name := "fcsResidue", fn := fun _ => fun
  | [d1, d2, d3] => { results := [.lit (.bool true)], args := [d1, d2, d3] }
  | _ => none }
def fcsResidueRow : OpenClaim := { program := "ytggpejjfgphihaadoor", sum := "f7672cd78803df811c0440a737a3f32baf59da53223610b575ed5b84441b180c", func := "marline/marlinelaw02.FcsResidue", spec := "fcsResidue", named := ["marline/fcs.wider", "marline/fcs.narrow"], apart := false, laid := [("marline/fcs.narrow", laid_marline_fcs_narrow), ("marline/fcs.wider", laid_marline_fcs_wider)] }
def FcsResidueSaid : Prop := fcsResidueRow.holds Tryd.pinned (OpenSpec.ofChange fcsResidueSpec)

/-- ITS FALSE NEIGHBOUR: 'it returns false'. Refute it at one input. -/
def fcsResidueWrong : ChangeSpec := { name := "fcsResidue", fn := fun _ => fun
  | [d1, d2, d3] => { results := [.lit (.bool false)], args := [d1, d2, d3] }
  | _ => none }
def FcsResidueWrongFalsely : Prop := fcsResidueRow.holds Tryd.pinned (OpenSpec.ofChange fcsResidueWrong)

/-- 'marlinelaw02.FcsBursts': WHATEVER THE INPUT: true; the input reads as it did. -/
def fcsBurstsSpec : ChangeSpec := { name := "fcsBursts", fn := fun _ => fun
  | [d1, d2, d3, d4] => { results := [.lit (.bool true)], args := [d1, d2, d3, d4] }
  | _ => none }
def fcsBurstsRow : OpenClaim := { program := "ytggpejjfgphihaadoor", sum := "f7672cd78803df811c0440a737a3f32baf59da53223610b575ed5b84441b180c", func := "marline/marlinelaw02.FcsBursts", spec := "fcsBursts", named := ["marline/fcs.wider", "marline/fcs.narrow"], apart := false, laid := [("marline/fcs.narrow", laid_marline_fcs_narrow), ("marline/fcs.wider", laid_marline_fcs_wider)] }
def FcsBurstsSaid : Prop := fcsBurstsRow.holds Tryd.pinned (OpenSpec.ofChange fcsBurstsSpec)

/-- ITS FALSE NEIGHBOUR: 'it returns false'. Refute it at one input. -/
def fcsBurstsWrong : ChangeSpec := { name := "fcsBursts", fn := fun _ => fun
  | [d1, d2, d3, d4] => { results := [.lit (.bool false)], args := [d1, d2, d3, d4] }
  | _ => none }
def FcsBurstsWrongFalsely : Prop := fcsBurstsRow.holds Tryd.pinned (OpenSpec.ofChange fcsBurstsWrong)

/-- 'marlinelaw02.FcsSums': WHATEVER THE INPUT: true; the input reads as it did. -/
def fcsSumsSpec : ChangeSpec := { name := "fcsSums", fn := fun _ => fun
  | [d1, d2] => { results := [.lit (.bool true)], args := [d1, d2] }
  | _ => none }
def fcsSumsRow : OpenClaim := { program := "ytggpejjfgphihaadoor", sum := "f7672cd78803df811c0440a737a3f32baf59da53223610b575ed5b84441b180c", func := "marline/marlinelaw02.FcsSums", spec := "fcsSums", named := ["marline/fcs.wider", "marline/fcs.narrow"], apart := false, laid := [("marline/fcs.narrow", laid_marline_fcs_narrow), ("marline/fcs.wider", laid_marline_fcs_wider)] }
def FcsSumsSaid : Prop := fcsSumsRow.holds Tryd.pinned (OpenSpec.ofChange fcsSumsSpec)

/-- ITS FALSE NEIGHBOUR: 'it returns false'. Refute it at one input. -/
def fcsSumsWrong : ChangeSpec := { name := "fcsSums", fn := fun _ => fun
  | [d1, d2] => { results := [.lit (.bool false)], args := [d1, d2] }
  | _ => none }
def FcsSumsWrongFalsely : Prop := fcsSumsRow.holds Tryd.pinned (OpenSpec.ofChange fcsSumsWrong)

/-- 'marlinelaw10.HeadBack': WHATEVER THE INPUT: true; the input reads as it did. -/
def headBackSpec : ChangeSpec := { name := "headBack", fn := fun _ => fun
  | [d1, d2, d3, d4, d5] => { results := [.lit (.bool true)], args := [d1, d2, d3, d4, d5] }
  | _ => none }
def headBackRow : OpenClaim := { program := "ytggpejjfgphihaadoor", sum := "f7672cd78803df811c0440a737a3f32baf59da53223610b575ed5b84441b180c", func := "marline/marlinelaw10.HeadBack", spec := "headBack", named := ["marline/head.full"], apart := false, laid := [("marline/head.full", laid_marline_head_full)] }
def HeadBackSaid : Prop := headBackRow.holds Tryd.pinned (OpenSpec.ofChange headBackSpec)

/-- ITS FALSE NEIGHBOUR: 'it returns false'. Refute it at one input. -/
def headBackWrong : ChangeSpec := { name := "headBack", fn := fun _ => fun
  | [d1, d2, d3, d4, d5] => { results := [.lit (.bool false)], args := [d1, d2, d3, d4, d5] }
  | _ => none }
def HeadBackWrongFalsely : Prop := headBackRow.holds Tryd.pinned (OpenSpec.ofChange headBackWrong)

/-- 'marlinelaw11.FrameSpoils': WHATEVER THE INPUT: true; the input reads as it did. -/
def frameSpoilsSpec : ChangeSpec := { name := "frameSpoils", fn := fun _ => fun
  | [d1, d2, d3, d4, d5] => { results := [.lit (.bool true)], args := [d1, d2, d3, d4, d5] }
  | _ => none }
def frameSpoilsRow : OpenClaim := { program := "ytggpejjfgphihaadoor", sum := "f7672cd78803df811c0440a737a3f32baf59da53223610b575ed5b84441b180c", func := "marline/marlinelaw11.FrameSpoils", spec := "frameSpoils", named := ["marline/head.full", "marline/fcs.wider", "marline/fcs.narrow"], apart := false, laid := [("marline/fcs.narrow", laid_marline_fcs_narrow), ("marline/fcs.wider", laid_marline_fcs_wider), ("marline/head.full", laid_marline_head_full)] }
def FrameSpoilsSaid : Prop := frameSpoilsRow.holds Tryd.pinned (OpenSpec.ofChange frameSpoilsSpec)

/-- ITS FALSE NEIGHBOUR: 'it returns false'. Refute it at one input. -/
def frameSpoilsWrong : ChangeSpec := { name := "frameSpoils", fn := fun _ => fun
  | [d1, d2, d3, d4, d5] => { results := [.lit (.bool false)], args := [d1, d2, d3, d4, d5] }
  | _ => none }
def FrameSpoilsWrongFalsely : Prop := frameSpoilsRow.holds Tryd.pinned (OpenSpec.ofChange frameSpoilsWrong)

/-- 'marlinelaw11.FrameParts': WHATEVER THE INPUT: true; the input reads as it did. -/
def framePartsSpec : ChangeSpec := { name := "frameParts", fn := fun _ => fun
  | [d1, d2] => { results := [.lit (.bool true)], args := [d1, d2] }
  | _ => none }
def framePartsRow : OpenClaim := { program := "ytggpejjfgphihaadoor", sum := "f7672cd78803df811c0440a737a3f32baf59da53223610b575ed5b84441b180c", func := "marline/marlinelaw11.FrameParts", spec := "frameParts", named := ["marline/head.full", "marline/fcs.wider", "marline/fcs.narrow"], apart := false, laid := [("marline/fcs.narrow", laid_marline_fcs_narrow), ("marline/fcs.wider", laid_marline_fcs_wider), ("marline/head.full", laid_marline_head_full)] }
def FramePartsSaid : Prop := framePartsRow.holds Tryd.pinned (OpenSpec.ofChange framePartsSpec)

/-- ITS FALSE NEIGHBOUR: 'it returns false'. Refute it at one input. -/
def framePartsWrong : ChangeSpec := { name := "frameParts", fn := fun _ => fun
  | [d1, d2] => { results := [.lit (.bool false)], args := [d1, d2] }
  | _ => none }
def FramePartsWrongFalsely : Prop := framePartsRow.holds Tryd.pinned (OpenSpec.ofChange framePartsWrong)

/-- 'marlinelaw11.FrameBack': WHATEVER THE INPUT: true; the input reads as it did. -/
def frameBackSpec : ChangeSpec := { name := "frameBack", fn := fun _ => fun
  | [d1, d2, d3, d4] => { results := [.lit (.bool true)], args := [d1, d2, d3, d4] }
  | _ => none }
def frameBackRow : OpenClaim := { program := "ytggpejjfgphihaadoor", sum := "f7672cd78803df811c0440a737a3f32baf59da53223610b575ed5b84441b180c", func := "marline/marlinelaw11.FrameBack", spec := "frameBack", named := ["marline/head.full", "marline/fcs.wider", "marline/fcs.narrow"], apart := false, laid := [("marline/fcs.narrow", laid_marline_fcs_narrow), ("marline/fcs.wider", laid_marline_fcs_wider), ("marline/head.full", laid_marline_head_full)] }
def FrameBackSaid : Prop := frameBackRow.holds Tryd.pinned (OpenSpec.ofChange frameBackSpec)

/-- ITS FALSE NEIGHBOUR: 'it returns false'. Refute it at one input. -/
def frameBackWrong : ChangeSpec := { name := "frameBack", fn := fun _ => fun
  | [d1, d2, d3, d4] => { results := [.lit (.bool false)], args := [d1, d2, d3, d4] }
  | _ => none }
def FrameBackWrongFalsely : Prop := frameBackRow.holds Tryd.pinned (OpenSpec.ofChange frameBackWrong)

/-- 'marlinelaw11.FrameTells': WHATEVER THE INPUT: true; the input reads as it did. -/
def frameTellsSpec : ChangeSpec := { name := "frameTells", fn := fun _ => fun
  | [d1, d2, d3, d4] => { results := [.lit (.bool true)], args := [d1, d2, d3, d4] }
  | _ => none }
def frameTellsRow : OpenClaim := { program := "ytggpejjfgphihaadoor", sum := "f7672cd78803df811c0440a737a3f32baf59da53223610b575ed5b84441b180c", func := "marline/marlinelaw11.FrameTells", spec := "frameTells", named := ["marline/head.full", "marline/fcs.wider", "marline/fcs.narrow"], apart := false, laid := [("marline/fcs.narrow", laid_marline_fcs_narrow), ("marline/fcs.wider", laid_marline_fcs_wider), ("marline/head.full", laid_marline_head_full)] }
def FrameTellsSaid : Prop := frameTellsRow.holds Tryd.pinned (OpenSpec.ofChange frameTellsSpec)

/-- ITS FALSE NEIGHBOUR: 'it returns false'. Refute it at one input. -/
def frameTellsWrong : ChangeSpec := { name := "frameTells", fn := fun _ => fun
  | [d1, d2, d3, d4] => { results := [.lit (.bool false)], args := [d1, d2, d3, d4] }
  | _ => none }
def FrameTellsWrongFalsely : Prop := frameTellsRow.holds Tryd.pinned (OpenSpec.ofChange frameTellsWrong)

/- THE SECOND FORM. 'bulk': how many values and letters a reading holds, each counted each time it is reached (what is shared counts as often as it is met; a slice's spare places count too). A statement '..UptoSaid' is the law's where the arguments, and the package variables that the reading takes, are together of bulk at most 1048576: NARROWER than '..Said'. Prove '..Said' where nothing that the law and all that it calls make is longer than what came in: it says more and counts as full. Else prove '..UptoSaid'. A law counts once. -/
mutual
def uptoBulk {H : Type} : DataW H → Nat
  | .lit (.string bytes) => bytes.length + 1
  | .lit _ => 1
  | .nil => 1
  | .ptr d => uptoBulk d + 1
  | .slice elems spare => uptoBulkAll elems + uptoBulkAll spare + 1
  | .agg parts => uptoBulkAll parts + 1
  | .iface _ d => uptoBulk d + 1
  | .map entries => uptoBulkEntries entries + 1
  | .held _ => 1
def uptoBulkAll {H : Type} : List (DataW H) → Nat
  | [] => 0
  | d :: r => uptoBulk d + uptoBulkAll r
def uptoBulkEntries {H : Type} : List (Lit × DataW H) → Nat
  | [] => 0
  | x :: r => uptoBulkEntry x + uptoBulkEntries r
def uptoBulkEntry {H : Type} : Lit × DataW H → Nat
  | (.string bytes, d) => bytes.length + uptoBulk d + 1
  | (_, d) => uptoBulk d + 1
 end
def uptoSmall : (H : Type) → List (DataW H) → Bool := fun _ ds => decide (uptoBulkAll ds ≤ 1048576)
def OpenSpec.upto (s : _root_.Go.ChangeSpec) : _root_.Go.OpenSpec := { _root_.Go.OpenSpec.ofChange s with cond := some uptoSmall }

/-- 'marlinelaw08.ConfigTells', WHERE WHAT IT READS IS OF BULK AT MOST 1048576: true; the input reads as it did. -/
def configTellsUptoRow : OpenClaim := { program := "ytggpejjfgphihaadoor", sum := "f7672cd78803df811c0440a737a3f32baf59da53223610b575ed5b84441b180c", func := "marline/marlinelaw08.ConfigTells", spec := "configTells", named := ["marline/fcs.wider", "marline/fcs.narrow"], apart := false, laid := [("marline/fcs.narrow", laid_marline_fcs_narrow), ("marline/fcs.wider", laid_marline_fcs_wider)], narrowed := true }
def ConfigTellsUptoSaid : Prop := configTellsUptoRow.holds Tryd.pinned (OpenSpec.upto configTellsSpec)

/-- 'marlinelaw08.ConfigFits', WHERE WHAT IT READS IS OF BULK AT MOST 1048576: true; the input reads as it did. -/
def configFitsUptoRow : OpenClaim := { program := "ytggpejjfgphihaadoor", sum := "f7672cd78803df811c0440a737a3f32baf59da53223610b575ed5b84441b180c", func := "marline/marlinelaw08.ConfigFits", spec := "configFits", named := ["marline/fcs.wider", "marline/fcs.narrow"], apart := false, laid := [("marline/fcs.narrow", laid_marline_fcs_narrow), ("marline/fcs.wider", laid_marline_fcs_wider)], narrowed := true }
def ConfigFitsUptoSaid : Prop := configFitsUptoRow.holds Tryd.pinned (OpenSpec.upto configFitsSpec)

/-- 'marlinelaw02.FcsSums2', WHERE WHAT IT READS IS OF BULK AT MOST 1048576: true; the input reads as it did. -/
def fcsSums2UptoRow : OpenClaim := { program := "ytggpejjfgphihaadoor", sum := "f7672cd78803df811c0440a737a3f32baf59da53223610b575ed5b84441b180c", func := "marline/marlinelaw02.FcsSums2", spec := "fcsSums2", named := ["marline/fcs.wider", "marline/fcs.narrow"], apart := false, laid := [("marline/fcs.narrow", laid_marline_fcs_narrow), ("marline/fcs.wider", laid_marline_fcs_wider)], narrowed := true }
def FcsSums2UptoSaid : Prop := fcsSums2UptoRow.holds Tryd.pinned (OpenSpec.upto fcsSums2Spec)

/-- 'marlinelaw10.HeadTells', WHERE WHAT IT READS IS OF BULK AT MOST 1048576: true; the input reads as it did. -/
def headTellsUptoRow : OpenClaim := { program := "ytggpejjfgphihaadoor", sum := "f7672cd78803df811c0440a737a3f32baf59da53223610b575ed5b84441b180c", func := "marline/marlinelaw10.HeadTells", spec := "headTells", inPlace := ["internal/bytealg.Compare"], unfollowed := true, recurses := true, named := ["marline/head.full"], apart := false, laid := [("marline/head.full", laid_marline_head_full)], narrowed := true }
def HeadTellsUptoSaid : Prop := headTellsUptoRow.holds Tryd.pinned (OpenSpec.upto headTellsSpec)

/-- 'marlinelaw10.HeadOne', WHERE WHAT IT READS IS OF BULK AT MOST 1048576: true; the input reads as it did. -/
def headOneUptoRow : OpenClaim := { program := "ytggpejjfgphihaadoor", sum := "f7672cd78803df811c0440a737a3f32baf59da53223610b575ed5b84441b180c", func := "marline/marlinelaw10.HeadOne", spec := "headOne", inPlace := ["internal/bytealg.Compare"], unfollowed := true, recurses := true, named := ["marline/head.full"], apart := false, laid := [("marline/head.full", laid_marline_head_full)], narrowed := true }
def HeadOneUptoSaid : Prop := headOneUptoRow.holds Tryd.pinned (OpenSpec.upto headOneSpec)

/-- 'marlinelaw02.FcsMore', WHERE WHAT IT READS IS OF BULK AT MOST 1048576: true; the input reads as it did. -/
def fcsMoreUptoRow : OpenClaim := { program := "ytggpejjfgphihaadoor", sum := "f7672cd78803df811c0440a737a3f32baf59da53223610b575ed5b84441b180c", func := "marline/marlinelaw02.FcsMore", spec := "fcsMore", named := ["marline/fcs.wider", "marline/fcs.narrow"], apart := false, laid := [("marline/fcs.narrow", laid_marline_fcs_narrow), ("marline/fcs.wider", laid_marline_fcs_wider)], narrowed := true }
def FcsMoreUptoSaid : Prop := fcsMoreUptoRow.holds Tryd.pinned (OpenSpec.upto fcsMoreSpec)

/-- 'marlinelaw02.FcsResidue', WHERE WHAT IT READS IS OF BULK AT MOST 1048576: true; the input reads as it did. -/
def fcsResidueUptoRow : OpenClaim := { program := "ytggpejjfgphihaadoor", sum := "f7672cd78803df811c0440a737a3f32baf59da53223610b575ed5b84441b180c", func := "marline/marlinelaw02.FcsResidue", spec := "fcsResidue", named := ["marline/fcs.wider", "marline/fcs.narrow"], apart := false, laid := [("marline/fcs.narrow", laid_marline_fcs_narrow), ("marline/fcs.wider", laid_marline_fcs_wider)], narrowed := true }
def FcsResidueUptoSaid : Prop := fcsResidueUptoRow.holds Tryd.pinned (OpenSpec.upto fcsResidueSpec)

/-- 'marlinelaw02.FcsBursts', WHERE WHAT IT READS IS OF BULK AT MOST 1048576: true; the input reads as it did. -/
def fcsBurstsUptoRow : OpenClaim := { program := "ytggpejjfgphihaadoor", sum := "f7672cd78803df811c0440a737a3f32baf59da53223610b575ed5b84441b180c", func := "marline/marlinelaw02.FcsBursts", spec := "fcsBursts", named := ["marline/fcs.wider", "marline/fcs.narrow"], apart := false, laid := [("marline/fcs.narrow", laid_marline_fcs_narrow), ("marline/fcs.wider", laid_marline_fcs_wider)], narrowed := true }
def FcsBurstsUptoSaid : Prop := fcsBurstsUptoRow.holds Tryd.pinned (OpenSpec.upto fcsBurstsSpec)

/-- 'marlinelaw02.FcsSums', WHERE WHAT IT READS IS OF BULK AT MOST 1048576: true; the input reads as it did. -/
def fcsSumsUptoRow : OpenClaim := { program := "ytggpejjfgphihaadoor", sum := "f7672cd78803df811c0440a737a3f32baf59da53223610b575ed5b84441b180c", func := "marline/marlinelaw02.FcsSums", spec := "fcsSums", named := ["marline/fcs.wider", "marline/fcs.narrow"], apart := false, laid := [("marline/fcs.narrow", laid_marline_fcs_narrow), ("marline/fcs.wider", laid_marline_fcs_wider)], narrowed := true }
def FcsSumsUptoSaid : Prop := fcsSumsUptoRow.holds Tryd.pinned (OpenSpec.upto fcsSumsSpec)

/-- 'marlinelaw10.HeadBack', WHERE WHAT IT READS IS OF BULK AT MOST 1048576: true; the input reads as it did. -/
def headBackUptoRow : OpenClaim := { program := "ytggpejjfgphihaadoor", sum := "f7672cd78803df811c0440a737a3f32baf59da53223610b575ed5b84441b180c", func := "marline/marlinelaw10.HeadBack", spec := "headBack", named := ["marline/head.full"], apart := false, laid := [("marline/head.full", laid_marline_head_full)], narrowed := true }
def HeadBackUptoSaid : Prop := headBackUptoRow.holds Tryd.pinned (OpenSpec.upto headBackSpec)

/-- 'marlinelaw11.FrameSpoils', WHERE WHAT IT READS IS OF BULK AT MOST 1048576: true; the input reads as it did. -/
def frameSpoilsUptoRow : OpenClaim := { program := "ytggpejjfgphihaadoor", sum := "f7672cd78803df811c0440a737a3f32baf59da53223610b575ed5b84441b180c", func := "marline/marlinelaw11.FrameSpoils", spec := "frameSpoils", named := ["marline/head.full", "marline/fcs.wider", "marline/fcs.narrow"], apart := false, laid := [("marline/fcs.narrow", laid_marline_fcs_narrow), ("marline/fcs.wider", laid_marline_fcs_wider), ("marline/head.full", laid_marline_head_full)], narrowed := true }
def FrameSpoilsUptoSaid : Prop := frameSpoilsUptoRow.holds Tryd.pinned (OpenSpec.upto frameSpoilsSpec)

/-- 'marlinelaw11.FrameParts', WHERE WHAT IT READS IS OF BULK AT MOST 1048576: true; the input reads as it did. -/
def framePartsUptoRow : OpenClaim := { program := "ytggpejjfgphihaadoor", sum := "f7672cd78803df811c0440a737a3f32baf59da53223610b575ed5b84441b180c", func := "marline/marlinelaw11.FrameParts", spec := "frameParts", named := ["marline/head.full", "marline/fcs.wider", "marline/fcs.narrow"], apart := false, laid := [("marline/fcs.narrow", laid_marline_fcs_narrow), ("marline/fcs.wider", laid_marline_fcs_wider), ("marline/head.full", laid_marline_head_full)], narrowed := true }
def FramePartsUptoSaid : Prop := framePartsUptoRow.holds Tryd.pinned (OpenSpec.upto framePartsSpec)

/-- 'marlinelaw11.FrameBack', WHERE WHAT IT READS IS OF BULK AT MOST 1048576: true; the input reads as it did. -/
def frameBackUptoRow : OpenClaim := { program := "ytggpejjfgphihaadoor", sum := "f7672cd78803df811c0440a737a3f32baf59da53223610b575ed5b84441b180c", func := "marline/marlinelaw11.FrameBack", spec := "frameBack", named := ["marline/head.full", "marline/fcs.wider", "marline/fcs.narrow"], apart := false, laid := [("marline/fcs.narrow", laid_marline_fcs_narrow), ("marline/fcs.wider", laid_marline_fcs_wider), ("marline/head.full", laid_marline_head_full)], narrowed := true }
def FrameBackUptoSaid : Prop := frameBackUptoRow.holds Tryd.pinned (OpenSpec.upto frameBackSpec)

/-- 'marlinelaw11.FrameTells', WHERE WHAT IT READS IS OF BULK AT MOST 1048576: true; the input reads as it did. -/
def frameTellsUptoRow : OpenClaim := { program := "ytggpejjfgphihaadoor", sum := "f7672cd78803df811c0440a737a3f32baf59da53223610b575ed5b84441b180c", func := "marline/marlinelaw11.FrameTells", spec := "frameTells", named := ["marline/head.full", "marline/fcs.wider", "marline/fcs.narrow"], apart := false, laid := [("marline/fcs.narrow", laid_marline_fcs_narrow), ("marline/fcs.wider", laid_marline_fcs_wider), ("marline/head.full", laid_marline_head_full)], narrowed := true }
def FrameTellsUptoSaid : Prop := frameTellsUptoRow.holds Tryd.pinned (OpenSpec.upto frameTellsSpec)

end Rows
end Go.Proofs.YtggpejjfgphihaaDoor
