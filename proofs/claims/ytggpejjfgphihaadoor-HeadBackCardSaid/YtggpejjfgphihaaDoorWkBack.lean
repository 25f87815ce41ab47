/- The walk of HeadBack, in the row's order. -/
import Derived.Test.YtggpejjfgphihaaDoorPuBack
namespace Go.Proofs.YtggpejjfgphihaaDoor.Wk
open Go.Proofs.YtggpejjfgphihaaDoor.Given Go.Proofs.YtggpejjfgphihaaDoor.B Go.Proofs.YtggpejjfgphihaaDoor.Pu Go.RowKit Go.Proofs.YtggpejjfgphihaaDoorW.PrintWords
set_option linter.unusedVariables false

theorem back_walk (a0 a1 a2 a3 : Bool) (a4 a5 a6 : Int) (x : Int) (A : Option Addr) (cap : Nat) (l : List Int) (p q : Bool) (w : World) (hgH : GH w) (h4 : 0 ≤ a4 ∧ a4 < 4294967296) (h5 : 0 ≤ a5 ∧ a5 < 4294967296) (h6 : -9223372036854775808 ≤ a6 ∧ a6 ≤ 9223372036854775807)
    (hx : 0 ≤ x ∧ x < 65536) (hr : Kd.C (Kd.int .u8) w A l.length l) (hc : l.length ≤ cap) (hb : l.all okByte = true) :
    Calls Tryd.prog 12 #[.agg #[.bool a0, .bool a1, .bool a2, .bool a3, .int .u32 a4, .int .u32 a5, .int .i64 a6], .int .u16 x, .slice A l.length cap, .bool p, .bool q] w fun e w' => e = .returned (.bool true) ∧ Below w.heap.size w w' :=
  marlinelaw10_HeadBack.calls 50 a0 a1 a2 a3 a4 a5 a6 x A cap l p q true w hr hc hgH (headBack_f a0 a1 a2 a3 a4 a5 a6 x hx l hb p q)
end Go.Proofs.YtggpejjfgphihaaDoor.Wk
