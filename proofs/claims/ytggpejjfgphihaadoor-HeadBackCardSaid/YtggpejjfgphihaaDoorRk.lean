/- What the rows have in common: how a config, a list of octets, the package-level variables are opened. -/
import Derived.Test.YtggpejjfgphihaaDoorRows
import Derived.Test.YtggpejjfgphihaaDoorGlob
import Derived.Test.YtggpejjfgphihaaDoorGMore
import Derived.WalkKit
import Derived.ProofKit
import Derived.OpenShut
import Derived.LaidMore
import Derived.Lay
import Derived.Stop.Joined
import Derived.SizedLaws
import Derived.ShutString
import Derived.ChangeOld
import Derived.Below
namespace Go.Proofs.YtggpejjfgphihaaDoor.Rk
open Go.ChangeShapes Go.WideShapes Go.ChangeAt Go.WideMaps Go.WideElems Go.RowKit
open Go.Proofs.YtggpejjfgphihaaDoor.Given Go.Proofs.YtggpejjfgphihaaDoorW.PrintWords
set_option linter.unusedVariables false

theorem own : ownKnob Tryd.prog.godebug = none := by kernel_rfl
theorem laidOut : laidOutB Tryd.prog = true := by kernel_rfl
theorem gFull : Tryd.prog.globalNamed "marline/head.full" = some 0 := by kernel_rfl
theorem gWider : Tryd.prog.globalNamed "marline/fcs.wider" = some 1 := by kernel_rfl
theorem gNarrow : Tryd.prog.globalNamed "marline/fcs.narrow" = some 2 := by kernel_rfl
theorem tFull : (Tryd.prog.globals[0]?).map (·.type) = some 82 := by kernel_rfl
theorem tWider : (Tryd.prog.globals[1]?).map (·.type) = some 80 := by kernel_rfl
theorem tNarrow : (Tryd.prog.globals[2]?).map (·.type) = some 80 := by kernel_rfl
theorem cells80 : Tryd.prog.cellsOf 80 = 4 := by kernel_rfl
theorem cells82 : Tryd.prog.cellsOf 82 = 2 := by kernel_rfl
theorem cells24 : Tryd.prog.cellsOf 24 = 7 := by kernel_rfl
theorem cells22 : Tryd.prog.cellsOf 22 = 1 := by kernel_rfl
theorem cells3 : Tryd.prog.cellsOf 3 = 1 := by kernel_rfl
theorem cells4 : Tryd.prog.cellsOf 4 = 1 := by kernel_rfl
theorem cells5 : Tryd.prog.cellsOf 5 = 1 := by kernel_rfl

section
variable {H : Type} {enc : TypeId × Value → H} {W : World} {base : Nat} {spare : Nat → Bool} {held : Bool}
set_option maxRecDepth 100000 in
/-- a method of package fcs, read as data: its four cells -/
theorem method_cells {n : Nat} {cs : List Value} {a b c d : Int} {ps : List MemPlace}
    (h : DataW.trod enc Tryd.prog W base spare held n 80 cs = some (.agg [.lit (.int .u32 a), .lit (.int .u32 b), .lit (.int .u32 c), .lit (.int .i64 d)], ps)) :
    cs = [.int .u32 a, .int .u32 b, .int .u32 c, .int .i64 d] := by
  obtain ⟨xs, m, _, hx, hl, hxl, hf⟩ := DataW.trod_struct Tryd.underlying80 h
  rw [cells80] at hl
  match cs, hl with
  | [c0, c1, c2, c3], _ =>
    match xs, hxl with
    | [y0, y1, y2, y3], _ =>
      simp only [Prod.mk.injEq, DataW.agg.injEq, List.map_cons, List.map_nil, List.cons.injEq, and_true] at hx
      obtain ⟨⟨e0, e1, e2, e3⟩, _⟩ := hx
      have f0 : DataW.trod enc Tryd.prog W base spare held m 22 (([c0, c1, c2, c3].drop 0).take (Tryd.prog.cellsOf 22)) = ([y0, y1, y2, y3] : List (DataW H × List MemPlace))[0]? := hf 0 _ rfl
      rw [cells22] at f0
      replace f0 : DataW.trod enc Tryd.prog W base spare held m 22 [c0] = some y0 := f0
      have f1 : DataW.trod enc Tryd.prog W base spare held m 22 (([c0, c1, c2, c3].drop 1).take (Tryd.prog.cellsOf 22)) = ([y0, y1, y2, y3] : List (DataW H × List MemPlace))[1]? := hf 1 _ rfl
      rw [cells22] at f1
      replace f1 : DataW.trod enc Tryd.prog W base spare held m 22 [c1] = some y1 := f1
      have f2 : DataW.trod enc Tryd.prog W base spare held m 22 (([c0, c1, c2, c3].drop 2).take (Tryd.prog.cellsOf 22)) = ([y0, y1, y2, y3] : List (DataW H × List MemPlace))[2]? := hf 2 _ rfl
      rw [cells22] at f2
      replace f2 : DataW.trod enc Tryd.prog W base spare held m 22 [c2] = some y2 := f2
      have f3 : DataW.trod enc Tryd.prog W base spare held m 3 (([c0, c1, c2, c3].drop 3).take (Tryd.prog.cellsOf 3)) = ([y0, y1, y2, y3] : List (DataW H × List MemPlace))[3]? := hf 3 _ rfl
      rw [cells3] at f3
      replace f3 : DataW.trod enc Tryd.prog W base spare held m 3 [c3] = some y3 := f3
      obtain ⟨k0, g0, h0, _⟩ := DataW.trod_int Tryd.underlying22 f0
      obtain ⟨k1, g1, h1, _⟩ := DataW.trod_int Tryd.underlying22 f1
      obtain ⟨k2, g2, h2, _⟩ := DataW.trod_int Tryd.underlying22 f2
      obtain ⟨k3, g3, h3, _⟩ := DataW.trod_int Tryd.underlying3 f3
      rw [h0] at e0; rw [h1] at e1; rw [h2] at e2; rw [h3] at e3
      simp only [DataW.lit.injEq, Lit.int.injEq, true_and] at e0 e1 e2 e3
      simp only [List.cons.injEq, and_true] at g0 g1 g2 g3
      rw [g0, g1, g2, g3, e0, e1, e2, e3]
set_option maxRecDepth 100000 in
theorem full_cells {n : Nat} {cs : List Value} {a b : Int} {ps : List MemPlace}
    (h : DataW.trod enc Tryd.prog W base spare held n 82 cs = some (.agg [.lit (.int .u8 a), .lit (.int .u8 b)], ps)) :
    cs = [.int .u8 a, .int .u8 b] := by
  obtain ⟨xs, m, rfl, hx, hl, hn, hel⟩ := DataW.trod_array Tryd.underlying82 h
  match xs, hn with
  | [y0, y1], _ =>
    simp only [Prod.mk.injEq, DataW.agg.injEq, List.map_cons, List.map_nil, List.cons.injEq, and_true] at hx
    obtain ⟨⟨e0, e1⟩, _⟩ := hx
    have f0 := hel 0 (by decide)
    have f1 := hel 1 (by decide)
    rw [cells5] at f0 f1
    have hl2 : cs.length = 2 := by simpa [cells82, cells5] using hl
    match cs, hl2 with
    | [c0, c1], _ =>
      simp only [Nat.zero_mul, Nat.one_mul, List.drop_zero, List.drop_succ_cons, List.take_succ_cons, List.take_zero, List.getElem?_cons_zero, List.getElem?_cons_succ] at f0 f1
      obtain ⟨k0, g0, h0, _⟩ := DataW.trod_int Tryd.underlying5 f0
      obtain ⟨k1, g1, h1, _⟩ := DataW.trod_int Tryd.underlying5 f1
      rw [h0] at e0; rw [h1] at e1
      simp only [DataW.lit.injEq, Lit.int.injEq, true_and] at e0 e1
      simp only [List.cons.injEq, and_true] at g0 g1
      rw [g0, g1, e0, e1]
set_option maxRecDepth 100000 in
/-- a config by value: its seven cells -/
theorem open_cfg {r : Reach} {b0 : Nat} {v : Value} {d : DataW H} {p : List MemPlace} (hv : Value.okWide Tryd.prog W r b0 24 v) (h : DataW.Trod enc Tryd.prog W base spare held 24 v d p) :
    ∃ (a0 a1 a2 a3 : Bool) (a4 a5 a6 : Int), v = .agg #[.bool a0, .bool a1, .bool a2, .bool a3, .int .u32 a4, .int .u32 a5, .int .i64 a6] ∧
      (Lit.int .u32 a4).wf = true ∧ (Lit.int .u32 a5).wf = true ∧ (Lit.int .i64 a6).wf = true := by
  obtain ⟨cs, rfl, hsz⟩ := okWide_struct Tryd.underlying24 hv
  obtain ⟨l⟩ := cs
  obtain ⟨fuel, hf0⟩ := h
  have hf1 : DataW.trod enc Tryd.prog W base spare held fuel 24 l = some (d, p) := by simpa [Value.cells] using hf0
  obtain ⟨xs, m, _, hx, hl, hxl, hf⟩ := DataW.trod_struct Tryd.underlying24 hf1
  rw [cells24] at hl
  match l, hl with
  | [c0, c1, c2, c3, c4, c5, c6], _ =>
    match xs, hxl with
    | [y0, y1, y2, y3, y4, y5, y6], _ =>
      have f0 : DataW.trod enc Tryd.prog W base spare held m 4 (([c0, c1, c2, c3, c4, c5, c6].drop 0).take (Tryd.prog.cellsOf 4)) = ([y0, y1, y2, y3, y4, y5, y6] : List (DataW H × List MemPlace))[0]? := hf 0 _ rfl
      rw [cells4] at f0
      replace f0 : DataW.trod enc Tryd.prog W base spare held m 4 [c0] = some y0 := f0
      have f1 : DataW.trod enc Tryd.prog W base spare held m 4 (([c0, c1, c2, c3, c4, c5, c6].drop 1).take (Tryd.prog.cellsOf 4)) = ([y0, y1, y2, y3, y4, y5, y6] : List (DataW H × List MemPlace))[1]? := hf 1 _ rfl
      rw [cells4] at f1
      replace f1 : DataW.trod enc Tryd.prog W base spare held m 4 [c1] = some y1 := f1
      have f2 : DataW.trod enc Tryd.prog W base spare held m 4 (([c0, c1, c2, c3, c4, c5, c6].drop 2).take (Tryd.prog.cellsOf 4)) = ([y0, y1, y2, y3, y4, y5, y6] : List (DataW H × List MemPlace))[2]? := hf 2 _ rfl
      rw [cells4] at f2
      replace f2 : DataW.trod enc Tryd.prog W base spare held m 4 [c2] = some y2 := f2
      have f3 : DataW.trod enc Tryd.prog W base spare held m 4 (([c0, c1, c2, c3, c4, c5, c6].drop 3).take (Tryd.prog.cellsOf 4)) = ([y0, y1, y2, y3, y4, y5, y6] : List (DataW H × List MemPlace))[3]? := hf 3 _ rfl
      rw [cells4] at f3
      replace f3 : DataW.trod enc Tryd.prog W base spare held m 4 [c3] = some y3 := f3
      have f4 : DataW.trod enc Tryd.prog W base spare held m 22 (([c0, c1, c2, c3, c4, c5, c6].drop 4).take (Tryd.prog.cellsOf 22)) = ([y0, y1, y2, y3, y4, y5, y6] : List (DataW H × List MemPlace))[4]? := hf 4 _ rfl
      rw [cells22] at f4
      replace f4 : DataW.trod enc Tryd.prog W base spare held m 22 [c4] = some y4 := f4
      have f5 : DataW.trod enc Tryd.prog W base spare held m 22 (([c0, c1, c2, c3, c4, c5, c6].drop 5).take (Tryd.prog.cellsOf 22)) = ([y0, y1, y2, y3, y4, y5, y6] : List (DataW H × List MemPlace))[5]? := hf 5 _ rfl
      rw [cells22] at f5
      replace f5 : DataW.trod enc Tryd.prog W base spare held m 22 [c5] = some y5 := f5
      have f6 : DataW.trod enc Tryd.prog W base spare held m 3 (([c0, c1, c2, c3, c4, c5, c6].drop 6).take (Tryd.prog.cellsOf 3)) = ([y0, y1, y2, y3, y4, y5, y6] : List (DataW H × List MemPlace))[6]? := hf 6 _ rfl
      rw [cells3] at f6
      replace f6 : DataW.trod enc Tryd.prog W base spare held m 3 [c6] = some y6 := f6
      obtain ⟨k0, g0, _⟩ := DataW.trod_bool Tryd.underlying4 f0
      obtain ⟨k1, g1, _⟩ := DataW.trod_bool Tryd.underlying4 f1
      obtain ⟨k2, g2, _⟩ := DataW.trod_bool Tryd.underlying4 f2
      obtain ⟨k3, g3, _⟩ := DataW.trod_bool Tryd.underlying4 f3
      obtain ⟨k4, g4, _, w4⟩ := DataW.trod_int Tryd.underlying22 f4
      obtain ⟨k5, g5, _, w5⟩ := DataW.trod_int Tryd.underlying22 f5
      obtain ⟨k6, g6, _, w6⟩ := DataW.trod_int Tryd.underlying3 f6
      simp only [List.cons.injEq, and_true] at g0 g1 g2 g3 g4 g5 g6
      exact ⟨k0, k1, k2, k3, k4, k5, k6, by rw [g0, g1, g2, g3, g4, g5, g6], w4, w5, w6⟩
end
theorem wf_u32 {n : Int} (h : (Lit.int .u32 n).wf = true) : 0 ≤ n ∧ n < 4294967296 := by
  have : IntKind.u32.min ≤ n ∧ n ≤ IntKind.u32.max := by simpa [Lit.wf] using h
  have e1 : IntKind.u32.min = 0 := by decide
  have e2 : IntKind.u32.max = 4294967295 := by decide
  omega
theorem wf_u16 {n : Int} (h : (Lit.int .u16 n).wf = true) : 0 ≤ n ∧ n < 65536 := by
  have : IntKind.u16.min ≤ n ∧ n ≤ IntKind.u16.max := by simpa [Lit.wf] using h
  have e1 : IntKind.u16.min = 0 := by decide
  have e2 : IntKind.u16.max = 65535 := by decide
  omega
theorem wf_u8 {n : Int} (h : (Lit.int .u8 n).wf = true) : 0 ≤ n ∧ n < 256 := by
  have : IntKind.u8.min ≤ n ∧ n ≤ IntKind.u8.max := by simpa [Lit.wf] using h
  have e1 : IntKind.u8.min = 0 := by decide
  have e2 : IntKind.u8.max = 255 := by decide
  omega

theorem bounds_i64 {n : Int} (h : (Lit.int .i64 n).wf = true) : -9223372036854775808 ≤ n ∧ n ≤ 9223372036854775807 := by
  have : IntKind.i64.min ≤ n ∧ n ≤ IntKind.i64.max := by simpa [Lit.wf] using h
  have e1 : IntKind.i64.min = -9223372036854775808 := by decide
  have e2 : IntKind.i64.max = 9223372036854775807 := by decide
  omega
/-- a list of octets: its numbers, where they lie, and that they are octets -/
theorem open_bytes {H : Type} {enc : TypeId × Value → H} {W : World} {base : Nat} {held : Bool} {a : Option Addr} {len cap : Nat} {d : DataW H} {p : List MemPlace}
    (h : DataW.Trod enc Tryd.prog W base (fun _ => true) held 35 (.slice a len cap) d p) :
    ∃ l : List Int, len = l.length ∧ Kd.C (Kd.int .u8) W a l.length l ∧ l.length ≤ cap ∧ l.all okByte = true := by
  obtain ⟨fuel, hf⟩ := h
  rcases open_ints Tryd.underlying35 Tryd.underlying5 (by kernel_rfl) hf with ⟨hcs, _⟩ | ⟨x, l, c, zs, hcs, _, hl, hm, hz, _, hcell, hwz⟩
  · simp [Value.cells] at hcs
    obtain ⟨rfl, rfl, rfl⟩ := hcs
    exact ⟨[], rfl, Kd.C_nil _ _, Nat.le_refl _, rfl⟩
  · simp [Value.cells] at hcs
    obtain ⟨rfl, rfl, rfl⟩ := hcs
    obtain ⟨l1, hl1, hr1, hm1, hw1, hc1⟩ := ReadsInt.ofRowC (w := W) (a := some x) (len := len) (cap := cap) (zs := zs) (k := .u8) (.inr ⟨x, rfl, hl, hm, by simpa using hz, hcell, hwz⟩)
    refine ⟨l1, hl1, Kd.C_of_reads (d := (0 : Int)) (h1 := fun _ => rfl) hr1, hc1, ?_⟩
    rw [List.all_eq_true]
    intro y hy
    have := wf_u8 (hw1 y hy)
    simp [okByte]
    exact this
abbrev laidF : List (String × DataW Unit) := [("marline/fcs.narrow", Rows.laid_marline_fcs_narrow), ("marline/fcs.wider", Rows.laid_marline_fcs_wider)]
abbrev laidH : List (String × DataW Unit) := [("marline/head.full", Rows.laid_marline_head_full)]
abbrev laidA : List (String × DataW Unit) := [("marline/fcs.narrow", Rows.laid_marline_fcs_narrow), ("marline/fcs.wider", Rows.laid_marline_fcs_wider), ("marline/head.full", Rows.laid_marline_head_full)]

/-- an array of cells, known cell by cell -/
theorem cell_at {W : World} {g : Nat} {name : String} {cs : Array Value} {l : List Value} (hg : Tryd.prog.globalNamed name = some g) (hv : W.var? Tryd.prog name = some cs) (he : cs.toList = l) (j : Nat) : W.cell? ⟨g, j, none⟩ = l[j]? := by
  rw [World.var?_cell hg hv j, ← he]; simp
theorem gf_of {W : World} {cn cw : Array Value} (hn : W.var? Tryd.prog "marline/fcs.narrow" = some cn) (hw : W.var? Tryd.prog "marline/fcs.wider" = some cw)
    (en : cn.toList = [.int .u32 33800, .int .u32 65535, .int .u32 61624, .int .i64 2]) (ew : cw.toList = [.int .u32 3988292384, .int .u32 4294967295, .int .u32 3736805603, .int .i64 4]) : GF W :=
  ⟨cell_at gWider hw ew 0, cell_at gWider hw ew 1, cell_at gWider hw ew 2, cell_at gWider hw ew 3, cell_at gNarrow hn en 0, cell_at gNarrow hn en 1, cell_at gNarrow hn en 2, cell_at gNarrow hn en 3⟩
theorem gh_of {W : World} {c : Array Value} (hf : W.var? Tryd.prog "marline/head.full" = some c) (ef : c.toList = [.int .u8 255, .int .u8 3]) : GH W :=
  ⟨cell_at gFull hf ef 0, cell_at gFull hf ef 1⟩
theorem of_laidF {W : World} (h : laidMetH Tryd.prog laidF W) : GF W := by
  rw [MakeChecks.laidMetH_plain _ _ _ (by kernel_rfl)] at h
  obtain ⟨ps, ⟨g0, t0, cs0, f0, p0, q0, hg0, ht0, hv0, hd0, ⟨g1, t1, cs1, f1, p1, q1, hg1, ht1, hv1, hd1, _, _⟩, _⟩, _, _⟩ := h
  obtain rfl := Option.some.inj (gNarrow.symm.trans hg0)
  obtain rfl := Option.some.inj (gWider.symm.trans hg1)
  obtain rfl := Option.some.inj (tNarrow.symm.trans ht0)
  obtain rfl := Option.some.inj (tWider.symm.trans ht1)
  exact gf_of hv0 hv1 (method_cells hd0) (method_cells hd1)
theorem of_laidH {W : World} (h : laidMetH Tryd.prog laidH W) : GH W := by
  rw [MakeChecks.laidMetH_plain _ _ _ (by kernel_rfl)] at h
  obtain ⟨ps, ⟨g0, t0, cs0, f0, p0, q0, hg0, ht0, hv0, hd0, _, _⟩, _, _⟩ := h
  obtain rfl := Option.some.inj (gFull.symm.trans hg0)
  obtain rfl := Option.some.inj (tFull.symm.trans ht0)
  exact gh_of hv0 (full_cells hd0)
theorem of_laidA {W : World} (h : laidMetH Tryd.prog laidA W) : GF W ∧ GH W := by
  rw [MakeChecks.laidMetH_plain _ _ _ (by kernel_rfl)] at h
  obtain ⟨ps, ⟨g0, t0, cs0, f0, p0, q0, hg0, ht0, hv0, hd0, ⟨g1, t1, cs1, f1, p1, q1, hg1, ht1, hv1, hd1, ⟨g2, t2, cs2, f2, p2, q2, hg2, ht2, hv2, hd2, _, _⟩, _⟩, _⟩, _, _⟩ := h
  obtain rfl := Option.some.inj (gNarrow.symm.trans hg0)
  obtain rfl := Option.some.inj (gWider.symm.trans hg1)
  obtain rfl := Option.some.inj (gFull.symm.trans hg2)
  obtain rfl := Option.some.inj (tNarrow.symm.trans ht0)
  obtain rfl := Option.some.inj (tWider.symm.trans ht1)
  obtain rfl := Option.some.inj (tFull.symm.trans ht2)
  exact ⟨gf_of hv0 hv1 (method_cells hd0) (method_cells hd1), gh_of hv2 (full_cells hd2)⟩
end Go.Proofs.YtggpejjfgphihaaDoor.Rk
