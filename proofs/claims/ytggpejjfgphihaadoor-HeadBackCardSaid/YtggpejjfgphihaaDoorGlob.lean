/- What the package-level variables hold, as the walks ask it: fcs.wider (block 1), fcs.narrow (block 2), head.full (block 0); and that this stays behind new blocks and draws. -/
import Derived.Test.YtggpejjfgphihaaDoorProg
import Derived.Test.YtggpejjfgphihaaDoorWWords
namespace Go.Proofs.YtggpejjfgphihaaDoor.Given
open Go.RowKit Go.Proofs.YtggpejjfgphihaaDoorW.PrintWords

/-- the two methods of package fcs lie as their initialisers laid them -/
structure GF (w : World) : Prop where
  w0 : w.cell? ⟨1, 0, none⟩ = some (.int .u32 3988292384)
  w1 : w.cell? ⟨1, 1, none⟩ = some (.int .u32 4294967295)
  w2 : w.cell? ⟨1, 2, none⟩ = some (.int .u32 3736805603)
  w3 : w.cell? ⟨1, 3, none⟩ = some (.int .i64 4)
  n0 : w.cell? ⟨2, 0, none⟩ = some (.int .u32 33800)
  n1 : w.cell? ⟨2, 1, none⟩ = some (.int .u32 65535)
  n2 : w.cell? ⟨2, 2, none⟩ = some (.int .u32 61624)
  n3 : w.cell? ⟨2, 3, none⟩ = some (.int .i64 2)
/-- head.full lies as its initialiser laid it -/
structure GH (w : World) : Prop where
  h0 : w.cell? ⟨0, 0, none⟩ = some (.int .u8 255)
  h1 : w.cell? ⟨0, 1, none⟩ = some (.int .u8 3)

theorem GF_below {w w1 : World} (h : GF w) (hb : Below w.heap.size w w1) : GF w1 :=
  ⟨pw_cell_below hb h.w0, pw_cell_below hb h.w1, pw_cell_below hb h.w2, pw_cell_below hb h.w3, pw_cell_below hb h.n0, pw_cell_below hb h.n1, pw_cell_below hb h.n2, pw_cell_below hb h.n3⟩
theorem GH_below {w w1 : World} (h : GH w) (hb : Below w.heap.size w w1) : GH w1 := ⟨pw_cell_below hb h.h0, pw_cell_below hb h.h1⟩
theorem GF_alloc {w : World} (h : GF w) (o : Obj) : GF (w.alloc o) := GF_below h (below_alloc (Below.refl _ _) o)
theorem GF_drew {w : World} (h : GF w) : GF w.drew := GF_below h (below_drew (Below.refl _ _))
theorem GF_drewN {w : World} (h : GF w) (n : Nat) : GF (w.drewN n) := GF_below h (pw_below_drewN (Below.refl _ _) n)
theorem GH_alloc {w : World} (h : GH w) (o : Obj) : GH (w.alloc o) := GH_below h (below_alloc (Below.refl _ _) o)
theorem GH_drew {w : World} (h : GH w) : GH w.drew := GH_below h (below_drew (Below.refl _ _))
theorem GH_drewN {w : World} (h : GH w) (n : Nat) : GH (w.drewN n) := GH_below h (pw_below_drewN (Below.refl _ _) n)
end Go.Proofs.YtggpejjfgphihaaDoor.Given
