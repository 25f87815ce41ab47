/- An array of four octets that came in, opened. -/
import Derived.Test.YtggpejjfgphihaaDoorRk
namespace Go.Proofs.YtggpejjfgphihaaDoor.Rk
open Go.ChangeShapes Go.WideShapes Go.ChangeAt Go.WideMaps Go.WideElems Go.RowKit
open Go.Proofs.YtggpejjfgphihaaDoor.Given Go.Proofs.YtggpejjfgphihaaDoorW.PrintWords
set_option linter.unusedVariables false
theorem cells54 : Tryd.prog.cellsOf 54 = 4 := by kernel_rfl
section
variable {H : Type} {enc : TypeId × Value → H} {W : World} {base : Nat} {spare : Nat → Bool} {held : Bool}
theorem okWide_arr {P : Program} {t e : TypeId} {n : Nat} {r : Reach} {b0 : Nat} {v : Value} (ht : P.underlying t = some (.array n e)) (h : Value.okWide P W r b0 t v) : ∃ cs, v = .agg cs ∧ cs.size = P.cellsOf t := by
  simp only [Value.okWide, ht] at h
  obtain ⟨cs, h1, h2, _⟩ := h
  exact ⟨cs, h1, h2⟩
set_option maxRecDepth 100000 in
theorem open_arr4 {r : Reach} {b0 : Nat} {v : Value} {d : DataW H} {p : List MemPlace} (hv : Value.okWide Tryd.prog W r b0 54 v) (h : DataW.Trod enc Tryd.prog W base spare held 54 v d p) :
    ∃ (a0 a1 a2 a3 : Int), v = .agg #[.int .u8 a0, .int .u8 a1, .int .u8 a2, .int .u8 a3] ∧
      (Lit.int .u8 a0).wf = true ∧ (Lit.int .u8 a1).wf = true ∧ (Lit.int .u8 a2).wf = true ∧ (Lit.int .u8 a3).wf = true := by
  obtain ⟨cs, rfl, hsz⟩ := okWide_arr Tryd.underlying54 hv
  obtain ⟨l⟩ := cs
  obtain ⟨fuel, hf0⟩ := h
  have hf1 : DataW.trod enc Tryd.prog W base spare held fuel 54 l = some (d, p) := by simpa [Value.cells] using hf0
  obtain ⟨xs, m, rfl, hx, hl, hn, hel⟩ := DataW.trod_array Tryd.underlying54 hf1
  have hl2 : l.length = 4 := hl.trans cells54
  match l, hl2 with
  | [c0, c1, c2, c3], _ =>
    match xs, hn with
    | [y0, y1, y2, y3], _ =>
      have f0 := hel 0 (by decide)
      have f1 := hel 1 (by decide)
      have f2 := hel 2 (by decide)
      have f3 := hel 3 (by decide)
      rw [cells5] at f0 f1 f2 f3
      simp only [Nat.mul_one, List.drop_zero, List.drop_succ_cons, List.take_succ_cons, List.take_zero, List.getElem?_cons_zero, List.getElem?_cons_succ] at f0 f1 f2 f3
      obtain ⟨k0, g0, _, w0⟩ := DataW.trod_int Tryd.underlying5 f0
      obtain ⟨k1, g1, _, w1⟩ := DataW.trod_int Tryd.underlying5 f1
      obtain ⟨k2, g2, _, w2⟩ := DataW.trod_int Tryd.underlying5 f2
      obtain ⟨k3, g3, _, w3⟩ := DataW.trod_int Tryd.underlying5 f3
      simp only [List.cons.injEq, and_true] at g0 g1 g2 g3
      exact ⟨k0, k1, k2, k3, by rw [g0, g1, g2, g3], w0, w1, w2, w3⟩
end
end Go.Proofs.YtggpejjfgphihaaDoor.Rk
