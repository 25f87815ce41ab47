/- The walks of FcsMore, FcsSums2 and FcsBursts, in the rows' order. -/
import Derived.Test.YtggpejjfgphihaaDoorPuFcs3
namespace Go.Proofs.YtggpejjfgphihaaDoor.Wk
open Go.Proofs.YtggpejjfgphihaaDoor.Given Go.Proofs.YtggpejjfgphihaaDoor.D Go.Proofs.YtggpejjfgphihaaDoor.Pu Go.RowKit Go.Proofs.YtggpejjfgphihaaDoorW.PrintWords
set_option linter.unusedVariables false

theorem more_walk (A : Option Addr) (cap : Nat) (l : List Int) (a1 : Bool) (x y : Int) (w : World) (hgF : GF w) (hr : Kd.C (Kd.int .u8) w A l.length l) (hc : l.length ≤ cap) (hb : l.all okByte = true) (hx : 0 ≤ x ∧ x < 4294967296) (hy : 0 ≤ y ∧ y < 65536) :
    Calls Tryd.prog 8 #[.slice A l.length cap, .bool a1, .int .u32 x, .int .u16 y] w fun e w' => e = .returned (.bool true) ∧ Below w.heap.size w w' :=
  marlinelaw02_FcsMore.calls 6000 A cap l a1 x y true w hr hc hgF (fcsMore_f l hb a1 x y hx hy)
theorem sums2_walk (A : Option Addr) (cap : Nat) (l : List Int) (B : Option Addr) (cap' : Nat) (m : List Int) (a1 : Bool) (w : World) (hgF : GF w) (hr : Kd.C (Kd.int .u8) w A l.length l) (hc : l.length ≤ cap) (hb : l.all okByte = true)
    (hr' : Kd.C (Kd.int .u8) w B m.length m) (hc' : m.length ≤ cap') (hb' : m.all okByte = true) :
    Calls Tryd.prog 5 #[.slice A l.length cap, .slice B m.length cap', .bool a1] w fun e w' => e = .returned (.bool true) ∧ Below w.heap.size w w' :=
  marlinelaw02_FcsSums2.calls 600 A cap l B cap' m a1 true w hr hc hr' hc' hgF (fcsSums2_f l m hb hb' a1)
theorem bursts_walk (A : Option Addr) (cap : Nat) (l : List Int) (a1 : Bool) (x y : Int) (w : World) (hgF : GF w) (hr : Kd.C (Kd.int .u8) w A l.length l) (hc : l.length ≤ cap) (hb : l.all okByte = true) (hx : 0 ≤ x ∧ x < 65536) (hy : 0 ≤ y ∧ y < 4294967296) :
    Calls Tryd.prog 10 #[.slice A l.length cap, .bool a1, .int .u16 x, .int .u32 y] w fun e w' => e = .returned (.bool true) ∧ Below w.heap.size w w' :=
  marlinelaw02_FcsBursts.calls 600 A cap l a1 x y true w hr hc hgF (fcsBursts_f l hb a1 x y hx hy)
end Go.Proofs.YtggpejjfgphihaaDoor.Wk
