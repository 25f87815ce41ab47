-- Printed by the session's own turn of the kit's print program (wip/pprint.py): not trusted, Lean checks it.
import Derived.Test.YtggpejjfgphihaaDoorProg
import Derived.Below
import Derived.Deep.Draws
import Derived.Deep.AppendLies
import Derived.Maps.AppendAt
import Derived.OwnWalk
import Derived.Laws.BytesArg
import Derived.Laws.MakeOwn
import Derived.Laws.OwnMore
import Derived.Deep.OwnRows
import Derived.Tactics
import Derived.Lib.ConvBytes
import Derived.Laws.Slices
import Derived.WalkKit
import Derived.KernelRfl
import Derived.RowKit3
import Derived.Deep.LoopGhost
import Derived.Deep.QuietTactic
import Derived.BigQuiet
import Derived.WideLaws
import Derived.Deep.DeepCutAuto
import Derived.Deep.CutBlock
import Derived.Deep.RegionHeld3
import Derived.Laws.Rows
import Derived.Lib.AppendStr
import Derived.ArgAppend
import Derived.Laws.IdiomCopy
import Derived.OrdersHeld
import Derived.Laws.BitsLemmas
import Derived.RowKit
import Derived.Test.YtggpejjfgphihaaDoorGOf
import Derived.Test.YtggpejjfgphihaaDoorGSum
import Derived.Test.YtggpejjfgphihaaDoorGMake
import Derived.Test.YtggpejjfgphihaaDoorWWords
import Derived.Test.YtggpejjfgphihaaDoorWLast
import Derived.Test.YtggpejjfgphihaaDoorWTab
import Derived.Test.YtggpejjfgphihaaDoorWFour
import Derived.Test.YtggpejjfgphihaaDoorWQPut
import Derived.Test.YtggpejjfgphihaaDoorWApart
import Derived.Test.YtggpejjfgphihaaDoorWArr
import Derived.Test.YtggpejjfgphihaaDoorWZeros
import Derived.Test.YtggpejjfgphihaaDoorWFoot
import Derived.Test.YtggpejjfgphihaaDoorWKept
import Derived.Test.YtggpejjfgphihaaDoorWShare
import Derived.Test.YtggpejjfgphihaaDoorWN
import Derived.Test.YtggpejjfgphihaaDoorWFootNe
import Derived.Test.YtggpejjfgphihaaDoorWAt
import Derived.Test.YtggpejjfgphihaaDoorWEqStruct
import Derived.Test.YtggpejjfgphihaaDoorWRepsOne
import Derived.Test.YtggpejjfgphihaaDoorWInv
import Derived.Test.YtggpejjfgphihaaDoorWInvWords
import Derived.Test.YtggpejjfgphihaaDoorWGuard
import Derived.Test.YtggpejjfgphihaaDoorWNEv
import Derived.Test.YtggpejjfgphihaaDoorWMore
namespace Go.Proofs.YtggpejjfgphihaaDoor.D
open Go.Proofs.YtggpejjfgphihaaDoor.Given Go.RowKit Go.Proofs.YtggpejjfgphihaaDoorW.PrintWords Go.Proofs.YtggpejjfgphihaaDoorW.PrintLast Go.Proofs.YtggpejjfgphihaaDoorW.PrintMore
attribute [local go_sem] max2_int min2_int max_two min_two max_three min_three max_four min_four   -- for this text's walks alone
set_option linter.unusedVariables false
set_option linter.unusedSimpArgs false



def errW : Option Int → Value
  | none => .nilIface
  | some c => .iface 0 (.int .i64 c)
theorem errW_none : errW none = .nilIface := rfl
theorem errW_some (c : Int) : errW (some c) = .iface 0 (.int .i64 c) := rfl

theorem info5 : (Tryd.prog.info? 5).map (fun i => (i.zero, i.size, i.bytes)) = some (some (.int .u8 0), 1, 1) := by kernel_rfl
-- the values' own types

end Go.Proofs.YtggpejjfgphihaaDoor.D
