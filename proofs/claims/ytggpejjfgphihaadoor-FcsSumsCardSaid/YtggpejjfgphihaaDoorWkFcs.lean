/- The walk of FcsSums, in the row's order. -/
import Derived.Test.YtggpejjfgphihaaDoorPuFcs
namespace Go.Proofs.YtggpejjfgphihaaDoor.Wk
open Go.Proofs.YtggpejjfgphihaaDoor.Given Go.Proofs.YtggpejjfgphihaaDoor.D Go.Proofs.YtggpejjfgphihaaDoor.Pu Go.RowKit Go.Proofs.YtggpejjfgphihaaDoorW.PrintWords
set_option linter.unusedVariables false

theorem sums_walk (A : Option Addr) (cap : Nat) (l : List Int) (a1 : Bool) (w : World) (hgF : GF w) (hr : Kd.C (Kd.int .u8) w A l.length l) (hc : l.length ≤ cap) (hb : l.all okByte = true) :
    Calls Tryd.prog 11 #[.slice A l.length cap, .bool a1] w fun e w' => e = .returned (.bool true) ∧ Below w.heap.size w w' :=
  marlinelaw02_FcsSums.calls 5000 A cap l a1 true w hr hc hgF (fcsSums_f l hb a1)
end Go.Proofs.YtggpejjfgphihaaDoor.Wk
