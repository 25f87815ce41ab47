/- fcs.of hands back one of the two package-level methods. -/
import Derived.Test.YtggpejjfgphihaaDoorGlob
import Derived.WalkKit
import Derived.Handy
namespace Go.Proofs.YtggpejjfgphihaaDoor.Given
open Go.RowKit Go.Proofs.YtggpejjfgphihaaDoorW.PrintWords

def fcs_of.f (a0 : Bool) : Option (Int × Int × Int × Int) := if a0 = true then some (3988292384, 4294967295, 3736805603, 4) else some (33800, 65535, 61624, 2)

theorem fcs_of.calls (a0 : Bool) (r1 r2 r3 r4 : Int) (w : World) (hgF : GF w) (h : fcs_of.f a0 = some (r1, r2, r3, r4)) :
    Calls Tryd.prog 56 #[.bool a0] w fun e w' => e = .returned (.agg #[.int .u32 r1, .int .u32 r2, .int .u32 r3, .int .i64 r4]) ∧ Below w.heap.size w w' := by
  obtain ⟨w0, w1, w2, w3, n0, n1, n2, n3⟩ := hgF
  have l1 : 1 < w.heap.size := World.block_lt_of_cell? w _ w0
  have l2 : 2 < w.heap.size := World.block_lt_of_cell? w _ n0
  cases a0
  · simp only [fcs_of.f, Bool.false_eq_true, if_false, Option.some.injEq, Prod.mk.injEq] at h
    obtain ⟨rfl, rfl, rfl, rfl⟩ := h
    go_enter Tryd.func56, Tryd.ntmps56
    go_wp2
    go_returns
    exact ⟨rfl, by go_grown⟩
  · simp only [fcs_of.f, if_true, Option.some.injEq, Prod.mk.injEq] at h
    obtain ⟨rfl, rfl, rfl, rfl⟩ := h
    go_enter Tryd.func56, Tryd.ntmps56
    go_wp2
    go_returns
    exact ⟨rfl, by go_grown⟩
end Go.Proofs.YtggpejjfgphihaaDoor.Given
