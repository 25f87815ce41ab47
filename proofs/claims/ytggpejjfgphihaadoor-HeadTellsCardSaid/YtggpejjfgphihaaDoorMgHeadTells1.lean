/- Laid together by wip/prune.py: what the claim needs of the session's texts and of the print program's words. -/
import Derived.Test.YtggpejjfgphihaaDoorMgHeadTells0
import Derived.Test.YtggpejjfgphihaaDoorProg
import Derived.WalkKit
import Derived.Handy
import Derived.Laws.BitsLemmas
import Derived.Deep.WholeRow
import Derived.Deep.LoopGhost
import Derived.Laws.ResultCell
import Derived.Lib.Hide
import Derived.Test.YtggpejjfgphihaaDoorRows
import Derived.ProofKit
import Derived.OpenShut
import Derived.LaidMore
import Derived.Lay
import Derived.Stop.Joined
import Derived.SizedLaws
import Derived.ShutString
import Derived.ChangeOld
import Derived.Below
import Derived.Lib.SlBytesConst
import Derived.Lib.SmallJoins
import Derived.Deep.RegionHeld3
import Derived.OwnWalk
import Derived.Deep.Draws
import Derived.Deep.AppendLies
import Derived.Maps.AppendAt
import Derived.Laws.BytesArg
import Derived.Laws.MakeOwn
import Derived.Laws.OwnMore
import Derived.Deep.OwnRows
import Derived.Tactics
import Derived.Lib.ConvBytes
import Derived.Laws.Slices
import Derived.KernelRfl
import Derived.RowKit3
import Derived.Deep.QuietTactic
import Derived.BigQuiet
import Derived.WideLaws
import Derived.Deep.DeepCutAuto
import Derived.Deep.CutBlock
import Derived.Laws.Rows
import Derived.Lib.AppendStr
import Derived.ArgAppend
import Derived.Laws.IdiomCopy
import Derived.OrdersHeld
import Derived.RowKit
import Derived.Lib.Bytes
section
namespace Go.Proofs.YtggpejjfgphihaaDoor.Given
open Go.RowKit Go.Proofs.YtggpejjfgphihaaDoorW.PrintWords
structure GH (w : World) : Prop where
  h0 : w.cell? ⟨0, 0, none⟩ = some (.int .u8 255)
  h1 : w.cell? ⟨0, 1, none⟩ = some (.int .u8 3)
theorem GH_below {w w1 : World} (h : GH w) (hb : Below w.heap.size w w1) : GH w1 := ⟨pw_cell_below hb h.h0, pw_cell_below hb h.h1⟩
theorem GH_alloc {w : World} (h : GH w) (o : Obj) : GH (w.alloc o) := GH_below h (below_alloc (Below.refl _ _) o)
theorem GH_drew {w : World} (h : GH w) : GH w.drew := GH_below h (below_drew (Below.refl _ _))
theorem GH_drewN {w : World} (h : GH w) (n : Nat) : GH (w.drewN n) := GH_below h (pw_below_drewN (Below.refl _ _) n)
end Go.Proofs.YtggpejjfgphihaaDoor.Given
end

section
namespace Go.Proofs.YtggpejjfgphihaaDoor.Given
open Go
theorem bits_and_nat (k : IntKind) (n : Nat) (hn : k.bits = n) (hk : ∀ m : Nat, m < 2 ^ n → k.wrap (m : Int) = (m : Int)) (a b : Nat) (ha : a < 2 ^ n) (hb : b < 2 ^ n) :
    Go.bits .and k (a : Int) (b : Int) = ((a &&& b : Nat) : Int) := by
  subst hn
  simp only [Go.bits, BitVec.ofInt_natCast, BitVec.toNat_and, BitVec.toNat_ofNat, Nat.mod_eq_of_lt ha, Nat.mod_eq_of_lt hb]
  exact hk _ (Nat.and_lt_two_pow _ hb)
theorem wrap_u8_nat (m : Nat) (h : m < 2 ^ 8) : IntKind.u8.wrap (m : Int) = (m : Int) := by rw [IntKind.wrap_u8]; omega
theorem wrap_u16_nat (m : Nat) (h : m < 2 ^ 16) : IntKind.u16.wrap (m : Int) = (m : Int) := by simp [IntKind.wrap, IntKind.bits, IntKind.signed]; omega
theorem and_u8 (a b : Nat) (ha : a < 2 ^ 8) (hb : b < 2 ^ 8) : Go.bits .and .u8 (a : Int) (b : Int) = ((a &&& b : Nat) : Int) := bits_and_nat .u8 8 rfl wrap_u8_nat a b ha hb
theorem and_u16 (a b : Nat) (ha : a < 2 ^ 16) (hb : b < 2 ^ 16) : Go.bits .and .u16 (a : Int) (b : Int) = ((a &&& b : Nat) : Int) := bits_and_nat .u16 16 rfl wrap_u16_nat a b ha hb
end Go.Proofs.YtggpejjfgphihaaDoor.Given
end

section
namespace Go.Proofs.YtggpejjfgphihaaDoor.Given
open Go.RowKit Go.Proofs.YtggpejjfgphihaaDoorW.PrintWords
set_option linter.unusedVariables false
def okByte (x : Int) : Bool := decide (0 ≤ x) && decide (x < 256)
theorem made_row (w2 : World) (a b : Array Value) (t : TypeId) : (w2.alloc (.cells a t)).setRow w2.heap.size b = w2.alloc (.cells b t) := World.setRow_alloc_new w2 a b t
end Go.Proofs.YtggpejjfgphihaaDoor.Given
end

section
namespace Go.Proofs.YtggpejjfgphihaaDoor.Rk
open Go.ChangeShapes Go.WideShapes Go.ChangeAt Go.WideMaps Go.WideElems Go.RowKit
open Go.Proofs.YtggpejjfgphihaaDoor.Given Go.Proofs.YtggpejjfgphihaaDoorW.PrintWords
set_option linter.unusedVariables false
theorem own : ownKnob Tryd.prog.godebug = none := by kernel_rfl
theorem laidOut : laidOutB Tryd.prog = true := by kernel_rfl
theorem gFull : Tryd.prog.globalNamed "marline/head.full" = some 0 := by kernel_rfl
theorem tFull : (Tryd.prog.globals[0]?).map (·.type) = some 82 := by kernel_rfl
theorem cells82 : Tryd.prog.cellsOf 82 = 2 := by kernel_rfl
theorem cells24 : Tryd.prog.cellsOf 24 = 7 := by kernel_rfl
theorem cells22 : Tryd.prog.cellsOf 22 = 1 := by kernel_rfl
theorem cells3 : Tryd.prog.cellsOf 3 = 1 := by kernel_rfl
theorem cells4 : Tryd.prog.cellsOf 4 = 1 := by kernel_rfl
theorem cells5 : Tryd.prog.cellsOf 5 = 1 := by kernel_rfl
section
variable {H : Type} {enc : TypeId × Value → H} {W : World} {base : Nat} {spare : Nat → Bool} {held : Bool}
set_option maxRecDepth 100000 in
theorem full_cells {n : Nat} {cs : List Value} {a b : Int} {ps : List MemPlace}
    (h : DataW.trod enc Tryd.prog W base spare held n 82 cs = some (.agg [.lit (.int .u8 a), .lit (.int .u8 b)], ps)) :
    cs = [.int .u8 a, .int .u8 b] := by
  obtain ⟨xs, m, rfl, hx, hl, hn, hel⟩ := DataW.trod_array Tryd.underlying82 h
  match xs, hn with
  | [y0, y1], _ =>
    simp only [Prod.mk.injEq, DataW.agg.injEq, List.map_cons, List.map_nil, List.cons.injEq, and_true] at hx
    obtain ⟨⟨e0, e1⟩, _⟩ := hx
    have f0 := hel 0 (by decide)
    have f1 := hel 1 (by decide)
    rw [cells5] at f0 f1
    have hl2 : cs.length = 2 := by simpa [cells82, cells5] using hl
    match cs, hl2 with
    | [c0, c1], _ =>
      simp only [Nat.zero_mul, Nat.one_mul, List.drop_zero, List.drop_succ_cons, List.take_succ_cons, List.take_zero, List.getElem?_cons_zero, List.getElem?_cons_succ] at f0 f1
      obtain ⟨k0, g0, h0, _⟩ := DataW.trod_int Tryd.underlying5 f0
      obtain ⟨k1, g1, h1, _⟩ := DataW.trod_int Tryd.underlying5 f1
      rw [h0] at e0; rw [h1] at e1
      simp only [DataW.lit.injEq, Lit.int.injEq, true_and] at e0 e1
      simp only [List.cons.injEq, and_true] at g0 g1
      rw [g0, g1, e0, e1]
set_option maxRecDepth 100000 in
theorem open_cfg {r : Reach} {b0 : Nat} {v : Value} {d : DataW H} {p : List MemPlace} (hv : Value.okWide Tryd.prog W r b0 24 v) (h : DataW.Trod enc Tryd.prog W base spare held 24 v d p) :
    ∃ (a0 a1 a2 a3 : Bool) (a4 a5 a6 : Int), v = .agg #[.bool a0, .bool a1, .bool a2, .bool a3, .int .u32 a4, .int .u32 a5, .int .i64 a6] ∧
      (Lit.int .u32 a4).wf = true ∧ (Lit.int .u32 a5).wf = true ∧ (Lit.int .i64 a6).wf = true := by
  obtain ⟨cs, rfl, hsz⟩ := okWide_struct Tryd.underlying24 hv
  obtain ⟨l⟩ := cs
  obtain ⟨fuel, hf0⟩ := h
  have hf1 : DataW.trod enc Tryd.prog W base spare held fuel 24 l = some (d, p) := by simpa [Value.cells] using hf0
  obtain ⟨xs, m, _, hx, hl, hxl, hf⟩ := DataW.trod_struct Tryd.underlying24 hf1
  rw [cells24] at hl
  match l, hl with
  | [c0, c1, c2, c3, c4, c5, c6], _ =>
    match xs, hxl with
    | [y0, y1, y2, y3, y4, y5, y6], _ =>
      have f0 : DataW.trod enc Tryd.prog W base spare held m 4 (([c0, c1, c2, c3, c4, c5, c6].drop 0).take (Tryd.prog.cellsOf 4)) = ([y0, y1, y2, y3, y4, y5, y6] : List (DataW H × List MemPlace))[0]? := hf 0 _ rfl
      rw [cells4] at f0
      replace f0 : DataW.trod enc Tryd.prog W base spare held m 4 [c0] = some y0 := f0
      have f1 : DataW.trod enc Tryd.prog W base spare held m 4 (([c0, c1, c2, c3, c4, c5, c6].drop 1).take (Tryd.prog.cellsOf 4)) = ([y0, y1, y2, y3, y4, y5, y6] : List (DataW H × List MemPlace))[1]? := hf 1 _ rfl
      rw [cells4] at f1
      replace f1 : DataW.trod enc Tryd.prog W base spare held m 4 [c1] = some y1 := f1
      have f2 : DataW.trod enc Tryd.prog W base spare held m 4 (([c0, c1, c2, c3, c4, c5, c6].drop 2).take (Tryd.prog.cellsOf 4)) = ([y0, y1, y2, y3, y4, y5, y6] : List (DataW H × List MemPlace))[2]? := hf 2 _ rfl
      rw [cells4] at f2
      replace f2 : DataW.trod enc Tryd.prog W base spare held m 4 [c2] = some y2 := f2
      have f3 : DataW.trod enc Tryd.prog W base spare held m 4 (([c0, c1, c2, c3, c4, c5, c6].drop 3).take (Tryd.prog.cellsOf 4)) = ([y0, y1, y2, y3, y4, y5, y6] : List (DataW H × List MemPlace))[3]? := hf 3 _ rfl
      rw [cells4] at f3
      replace f3 : DataW.trod enc Tryd.prog W base spare held m 4 [c3] = some y3 := f3
      have f4 : DataW.trod enc Tryd.prog W base spare held m 22 (([c0, c1, c2, c3, c4, c5, c6].drop 4).take (Tryd.prog.cellsOf 22)) = ([y0, y1, y2, y3, y4, y5, y6] : List (DataW H × List MemPlace))[4]? := hf 4 _ rfl
      rw [cells22] at f4
      replace f4 : DataW.trod enc Tryd.prog W base spare held m 22 [c4] = some y4 := f4
      have f5 : DataW.trod enc Tryd.prog W base spare held m 22 (([c0, c1, c2, c3, c4, c5, c6].drop 5).take (Tryd.prog.cellsOf 22)) = ([y0, y1, y2, y3, y4, y5, y6] : List (DataW H × List MemPlace))[5]? := hf 5 _ rfl
      rw [cells22] at f5
      replace f5 : DataW.trod enc Tryd.prog W base spare held m 22 [c5] = some y5 := f5
      have f6 : DataW.trod enc Tryd.prog W base spare held m 3 (([c0, c1, c2, c3, c4, c5, c6].drop 6).take (Tryd.prog.cellsOf 3)) = ([y0, y1, y2, y3, y4, y5, y6] : List (DataW H × List MemPlace))[6]? := hf 6 _ rfl
      rw [cells3] at f6
      replace f6 : DataW.trod enc Tryd.prog W base spare held m 3 [c6] = some y6 := f6
      obtain ⟨k0, g0, _⟩ := DataW.trod_bool Tryd.underlying4 f0
      obtain ⟨k1, g1, _⟩ := DataW.trod_bool Tryd.underlying4 f1
      obtain ⟨k2, g2, _⟩ := DataW.trod_bool Tryd.underlying4 f2
      obtain ⟨k3, g3, _⟩ := DataW.trod_bool Tryd.underlying4 f3
      obtain ⟨k4, g4, _, w4⟩ := DataW.trod_int Tryd.underlying22 f4
      obtain ⟨k5, g5, _, w5⟩ := DataW.trod_int Tryd.underlying22 f5
      obtain ⟨k6, g6, _, w6⟩ := DataW.trod_int Tryd.underlying3 f6
      simp only [List.cons.injEq, and_true] at g0 g1 g2 g3 g4 g5 g6
      exact ⟨k0, k1, k2, k3, k4, k5, k6, by rw [g0, g1, g2, g3, g4, g5, g6], w4, w5, w6⟩
end
theorem wf_u32 {n : Int} (h : (Lit.int .u32 n).wf = true) : 0 ≤ n ∧ n < 4294967296 := by
  have : IntKind.u32.min ≤ n ∧ n ≤ IntKind.u32.max := by simpa [Lit.wf] using h
  have e1 : IntKind.u32.min = 0 := by decide
  have e2 : IntKind.u32.max = 4294967295 := by decide
  omega
theorem wf_u16 {n : Int} (h : (Lit.int .u16 n).wf = true) : 0 ≤ n ∧ n < 65536 := by
  have : IntKind.u16.min ≤ n ∧ n ≤ IntKind.u16.max := by simpa [Lit.wf] using h
  have e1 : IntKind.u16.min = 0 := by decide
  have e2 : IntKind.u16.max = 65535 := by decide
  omega
theorem wf_u8 {n : Int} (h : (Lit.int .u8 n).wf = true) : 0 ≤ n ∧ n < 256 := by
  have : IntKind.u8.min ≤ n ∧ n ≤ IntKind.u8.max := by simpa [Lit.wf] using h
  have e1 : IntKind.u8.min = 0 := by decide
  have e2 : IntKind.u8.max = 255 := by decide
  omega
theorem bounds_i64 {n : Int} (h : (Lit.int .i64 n).wf = true) : -9223372036854775808 ≤ n ∧ n ≤ 9223372036854775807 := by
  have : IntKind.i64.min ≤ n ∧ n ≤ IntKind.i64.max := by simpa [Lit.wf] using h
  have e1 : IntKind.i64.min = -9223372036854775808 := by decide
  have e2 : IntKind.i64.max = 9223372036854775807 := by decide
  omega
theorem open_bytes {H : Type} {enc : TypeId × Value → H} {W : World} {base : Nat} {held : Bool} {a : Option Addr} {len cap : Nat} {d : DataW H} {p : List MemPlace}
    (h : DataW.Trod enc Tryd.prog W base (fun _ => true) held 35 (.slice a len cap) d p) :
    ∃ l : List Int, len = l.length ∧ Kd.C (Kd.int .u8) W a l.length l ∧ l.length ≤ cap ∧ l.all okByte = true := by
  obtain ⟨fuel, hf⟩ := h
  rcases open_ints Tryd.underlying35 Tryd.underlying5 (by kernel_rfl) hf with ⟨hcs, _⟩ | ⟨x, l, c, zs, hcs, _, hl, hm, hz, _, hcell, hwz⟩
  · simp [Value.cells] at hcs
    obtain ⟨rfl, rfl, rfl⟩ := hcs
    exact ⟨[], rfl, Kd.C_nil _ _, Nat.le_refl _, rfl⟩
  · simp [Value.cells] at hcs
    obtain ⟨rfl, rfl, rfl⟩ := hcs
    obtain ⟨l1, hl1, hr1, hm1, hw1, hc1⟩ := ReadsInt.ofRowC (w := W) (a := some x) (len := len) (cap := cap) (zs := zs) (k := .u8) (.inr ⟨x, rfl, hl, hm, by simpa using hz, hcell, hwz⟩)
    refine ⟨l1, hl1, Kd.C_of_reads (d := (0 : Int)) (h1 := fun _ => rfl) hr1, hc1, ?_⟩
    rw [List.all_eq_true]
    intro y hy
    have := wf_u8 (hw1 y hy)
    simp [okByte]
    exact this
abbrev laidH : List (String × DataW Unit) := [("marline/head.full", Rows.laid_marline_head_full)]
theorem cell_at {W : World} {g : Nat} {name : String} {cs : Array Value} {l : List Value} (hg : Tryd.prog.globalNamed name = some g) (hv : W.var? Tryd.prog name = some cs) (he : cs.toList = l) (j : Nat) : W.cell? ⟨g, j, none⟩ = l[j]? := by
  rw [World.var?_cell hg hv j, ← he]; simp
theorem gh_of {W : World} {c : Array Value} (hf : W.var? Tryd.prog "marline/head.full" = some c) (ef : c.toList = [.int .u8 255, .int .u8 3]) : GH W :=
  ⟨cell_at gFull hf ef 0, cell_at gFull hf ef 1⟩
theorem of_laidH {W : World} (h : laidMetH Tryd.prog laidH W) : GH W := by
  rw [MakeChecks.laidMetH_plain _ _ _ (by kernel_rfl)] at h
  obtain ⟨ps, ⟨g0, t0, cs0, f0, p0, q0, hg0, ht0, hv0, hd0, _, _⟩, _, _⟩ := h
  obtain rfl := Option.some.inj (gFull.symm.trans hg0)
  obtain rfl := Option.some.inj (tFull.symm.trans ht0)
  exact gh_of hv0 (full_cells hd0)
end Go.Proofs.YtggpejjfgphihaaDoor.Rk
end

section
namespace Go.Proofs.YtggpejjfgphihaaDoor.D
open Go.Proofs.YtggpejjfgphihaaDoor.Given Go.RowKit Go.Proofs.YtggpejjfgphihaaDoorW.PrintWords Go.Proofs.YtggpejjfgphihaaDoorW.PrintLast Go.Proofs.YtggpejjfgphihaaDoorW.PrintMore
attribute [local go_sem] max2_int min2_int max_two min_two max_three min_three max_four min_four
set_option linter.unusedVariables false
set_option linter.unusedSimpArgs false
def errW : Option Int → Value
  | none => .nilIface
  | some c => .iface 0 (.int .i64 c)
theorem errW_none : errW none = .nilIface := rfl
theorem errW_some (c : Int) : errW (some c) = .iface 0 (.int .i64 c) := rfl
theorem info5 : (Tryd.prog.info? 5).map (fun i => (i.zero, i.size, i.bytes)) = some (some (.int .u8 0), 1, 1) := by kernel_rfl
end Go.Proofs.YtggpejjfgphihaaDoor.D
end

section
namespace Go.Proofs.YtggpejjfgphihaaDoor.D
open Go.Proofs.YtggpejjfgphihaaDoor.Given Go.RowKit Go.Proofs.YtggpejjfgphihaaDoorW.PrintWords Go.Proofs.YtggpejjfgphihaaDoorW.PrintLast Go.Proofs.YtggpejjfgphihaaDoorW.PrintMore
attribute [local go_sem] max2_int min2_int max_two min_two max_three min_three max_four min_four
set_option linter.unusedVariables false
set_option linter.unusedSimpArgs false
def marlineref01_Equal.l0 : Nat → List Int → List Int → Int → Option (Bool)
  | 0, _, _, _ => none
  | k + 1, x0, x1, x5 => if x5 < (x0.length : Int) then (if 0 ≤ x5 then (if x5 < (x1.length : Int) then (if (rd x0 x5) = (rd x1 x5) then (marlineref01_Equal.l0 k x0 x1 (wrap64 (x5 + 1))) else (some false)) else (none)) else (none)) else (some true)
def marlineref01_Equal.f (k : Nat) (l0 : List Int) (l1 : List Int) : Option (Bool) := if (l0.length : Int) = (l1.length : Int) then (marlineref01_Equal.l0 k l0 l1 0) else (some false)
set_option maxHeartbeats 8000000 in
set_option maxRecDepth 100000 in
theorem marlineref01_Equal.calls (k : Nat) (A0 : Option Addr) (c0 : Nat) (l0 : List Int) (A1 : Option Addr) (c1 : Nat) (l1 : List Int) (r : Bool) (w : World) (hr0 : Kd.C (Kd.int .u8) w A0 l0.length l0) (hc0 : l0.length ≤ c0) (hr1 : Kd.C (Kd.int .u8) w A1 l1.length l1) (hc1 : l1.length ≤ c1) (h : marlineref01_Equal.f k l0 l1 = some r) :
    Calls Tryd.prog 31 #[.slice A0 l0.length c0, .slice A1 l1.length c1] w fun e w' => e = .returned (.bool r) ∧ Drawn0 w w' := by
  have HR0 := Aside0.mk hr0
  have HC0 := Aside0.mk hc0
  clear hr0 hc0
  have HR1 := Aside0.mk hr1
  have HC1 := Aside0.mk hc1
  clear hr1 hc1
  have H : (if (l0.length : Int) = (l1.length : Int) then (marlineref01_Equal.l0 k l0 l1 0) else (some false)) = some r := h
  clear h
  by_cases c3 : (l0.length : Int) = (l1.length : Int)
  · rw [if_pos c3] at H
    have c3b0 : ((l0.length : Int) == (l1.length : Int)) = true := beq_iff_eq.mpr c3
    have c3b1 : ((l0.length : Int) != (l1.length : Int)) = false := bne_eq_false_iff_eq.mpr c3
    have c3b2 : (l0.length == l1.length) = true := by first | simpa using c3 | (simp at c3 ⊢; omega)
    clear c3
    have H' := Aside0.mk H
    clear H
    go_enter Tryd.func31, Tryd.ntmps31
    go_wp2
    repeat (go_quiet (fail); try go_wp2)
    go_loopg [5] k (fun kq v5 w' => ∃ (x5_1 : Int), v5 = .int .i64 x5_1 ∧ Aside0 (marlineref01_Equal.l0 kq l0 l1 x5_1 = some r) ∧ Aside0 (kq ≤ k) ∧ Drawn0 w w')
    case atStart => exact ⟨(0), (by first | rfl | (simp; done) | (simp [*]; done)), H', ⟨Nat.le_refl _⟩, by repeat (first | exact Drawn0.refl _ | apply Drawn0.step)⟩
    case round =>
      clear H'
      try clear c1
      try clear p2
      try clear c3
      try clear c3b0
      try clear c3b1
      try clear c3b2
      obtain ⟨x5_1, rfl, HA, HK1, ⟨m1, rfl⟩⟩ := hrel
      cases gk with
      | zero => exact absurd HA.out (by simp [marlineref01_Equal.l0])
      | succ k1 =>
        have H := HA.out
        clear HA
        simp only [marlineref01_Equal.l0] at H
        by_cases c4 : x5_1 < (l0.length : Int)
        · rw [if_pos c4] at H
          have c4b0 : decide (x5_1 < (l0.length : Int)) = true := decide_eq_true c4
          clear c4
          by_cases c5 : 0 ≤ x5_1
          · rw [if_pos c5] at H
            have c5b0 : decide (0 ≤ x5_1) = true := decide_eq_true c5
            clear c5
            by_cases c6 : x5_1 < (l1.length : Int)
            · rw [if_pos c6] at H
              have c6b0 : decide (x5_1 < (l1.length : Int)) = true := decide_eq_true c6
              clear c6
              by_cases c7 : (rd l0 x5_1) = (rd l1 x5_1)
              · rw [if_pos c7] at H
                have c7b0 : ((rd l0 x5_1) == (rd l1 x5_1)) = true := beq_iff_eq.mpr c7
                have c7b1 : ((rd l0 x5_1) != (rd l1 x5_1)) = false := bne_eq_false_iff_eq.mpr c7
                clear c7
                have H' := Aside0.mk H
                clear H
                have p163 : 0 ≤ (x5_1 : Int) := of_decide_eq_true (by first | (with_reducible assumption) | assumption)
                have q163 : x5_1 < (l0.length : Int) := of_decide_eq_true (by first | (with_reducible assumption) | assumption)
                obtain ⟨ad163, e163, hx163_0⟩ := Kd.at_int HR0.out x5_1 p163 q163
                cases e163
                replace p163 := eq_true p163
                replace q163 := eq_true q163
                have p164 : 0 ≤ (x5_1 : Int) := of_decide_eq_true (by first | (with_reducible assumption) | assumption)
                have q164 : x5_1 < (l1.length : Int) := of_decide_eq_true (by first | (with_reducible assumption) | assumption)
                obtain ⟨ad164, e164, hx164_0⟩ := Kd.at_int HR1.out x5_1 p164 q164
                cases e164
                replace p164 := eq_true p164
                replace q164 := eq_true q164
                go_wp2
                repeat (go_quiet (fail); try go_wp2)
                go_roundg k1
                case measure => have := HK1.out; omega
                case rel => exact ⟨(wrap64 (x5_1 + 1)), (by first | rfl | (simp; done) | (simp [*]; done)), H', ⟨by have := HK1.out; omega⟩, by repeat (first | exact Drawn0.refl _ | apply Drawn0.step)⟩
              · rw [if_neg c7] at H
                have c7b0 : ((rd l0 x5_1) == (rd l1 x5_1)) = false := beq_eq_false_iff_ne.mpr c7
                have c7b1 : ((rd l0 x5_1) != (rd l1 x5_1)) = true := bne_iff_ne.mpr c7
                obtain rfl := Option.some.inj H
                have p163 : 0 ≤ (x5_1 : Int) := of_decide_eq_true (by first | (with_reducible assumption) | assumption)
                have q163 : x5_1 < (l0.length : Int) := of_decide_eq_true (by first | (with_reducible assumption) | assumption)
                obtain ⟨ad163, e163, hx163_0⟩ := Kd.at_int HR0.out x5_1 p163 q163
                cases e163
                replace p163 := eq_true p163
                replace q163 := eq_true q163
                have p164 : 0 ≤ (x5_1 : Int) := of_decide_eq_true (by first | (with_reducible assumption) | assumption)
                have q164 : x5_1 < (l1.length : Int) := of_decide_eq_true (by first | (with_reducible assumption) | assumption)
                obtain ⟨ad164, e164, hx164_0⟩ := Kd.at_int HR1.out x5_1 p164 q164
                cases e164
                replace p164 := eq_true p164
                replace q164 := eq_true q164
                go_wp2
                repeat (go_quiet (fail); try go_wp2)
                go_ret
                exact ⟨by first | rfl | (simp; done) | (simp [*]; done), by repeat (first | exact Drawn0.refl _ | apply Drawn0.step)⟩
            · rw [if_neg c6] at H
              exact absurd H (by simp)
          · rw [if_neg c5] at H
            exact absurd H (by simp)
        · rw [if_neg c4] at H
          have c4b0 : decide (x5_1 < (l0.length : Int)) = false := decide_eq_false c4
          clear c4
          obtain rfl := Option.some.inj H
          go_wp2
          repeat (go_quiet (fail); try go_wp2)
          go_ret
          exact ⟨by first | rfl | (simp; done) | (simp [*]; done), by repeat (first | exact Drawn0.refl _ | apply Drawn0.step)⟩
  · rw [if_neg c3] at H
    have c3b0 : ((l0.length : Int) == (l1.length : Int)) = false := beq_eq_false_iff_ne.mpr c3
    have c3b1 : ((l0.length : Int) != (l1.length : Int)) = true := bne_iff_ne.mpr c3
    have c3b2 : (l0.length == l1.length) = false := by first | simpa using c3 | (simp at c3 ⊢; omega)
    obtain rfl := Option.some.inj H
    go_enter Tryd.func31, Tryd.ntmps31
    go_wp2
    repeat (go_quiet (fail); try go_wp2)
    go_ret
    exact ⟨by first | rfl | (simp; done) | (simp [*]; done), by repeat (first | exact Drawn0.refl _ | apply Drawn0.step)⟩
end Go.Proofs.YtggpejjfgphihaaDoor.D
end

section
namespace Go.Proofs.YtggpejjfgphihaaDoor.Pu
open Go.RowKit Go.Proofs.YtggpejjfgphihaaDoorW.PrintWords
open Go.Proofs.YtggpejjfgphihaaDoor.Given Go.Proofs.YtggpejjfgphihaaDoor.D
set_option linter.unusedVariables false
def ofN (B : List Nat) : List Int := B.map fun (n : Nat) => (n : Int)
theorem ofN_length (B : List Nat) : (ofN B).length = B.length := by simp [ofN]
theorem ofN_drop (n : Nat) (B : List Nat) : (ofN B).drop n = ofN (B.drop n) := by simp [ofN]
theorem ofN_of {l : List Int} (h : l.all okByte = true) : l = ofN (l.map Int.toNat) := by
  induction l with
  | nil => rfl
  | cons c l ih =>
    have h' := h
    simp only [List.all_cons, Bool.and_eq_true] at h'
    have := h'.1
    simp [okByte] at this
    simp only [ofN, List.map_cons] at ih ⊢
    rw [← ih h'.2]
    congr 1
    omega
theorem ofN_rd (B : List Nat) (i : Nat) (hi : i < B.length) : rd (ofN B) (i : Int) = ((B[i] : Nat) : Int) := by
  simp [rd, ofN, hi]
theorem w64 (n : Nat) (h : n < 9223372036854775808) : wrap64 (n : Int) = (n : Int) := by unfold wrap64; omega
theorem tmod2 (x : Nat) : Int.tmod (x : Int) 2 = ((x % 2 : Nat) : Int) := rfl
theorem tdivN (x : Nat) (n : Nat) : Int.tdiv (x : Int) (n : Int) = ((x / n : Nat) : Int) := rfl
theorem tmodN (x : Nat) (n : Nat) : Int.tmod (x : Int) (n : Int) = ((x % n : Nat) : Int) := rfl
theorem equal_go (A B : List Nat) (hl : A.length = B.length) (hb : A.length < 4611686018427387904) : ∀ (n i k : Nat), A.length = i + n →
    marlineref01_Equal.l0 (k + n + 1) (ofN A) (ofN B) (i : Int) = some (decide (A.drop i = B.drop i)) := by
  intro n
  induction n with
  | zero =>
    intro i k he
    rw [marlineref01_Equal.l0, if_neg (by rw [ofN_length]; omega), List.drop_eq_nil_of_le (by omega), List.drop_eq_nil_of_le (by omega)]; rfl
  | succ n ih =>
    intro i k he
    have ha : i < A.length := by omega
    have hb' : i < B.length := by omega
    rw [show k + (n + 1) + 1 = (k + n + 1) + 1 by omega, marlineref01_Equal.l0, if_pos (by rw [ofN_length]; omega), if_pos (by omega), if_pos (by rw [ofN_length]; omega), ofN_rd A i ha, ofN_rd B i hb']
    rw [show wrap64 ((i : Int) + 1) = ((i + 1 : Nat) : Int) by unfold wrap64; omega, ih (i + 1) k (by omega), List.drop_eq_getElem_cons ha, List.drop_eq_getElem_cons hb']
    by_cases h : A[i] = B[i]
    · rw [if_pos (by omega)]; simp only [h, List.cons.injEq, true_and]
    · rw [if_neg (by omega)]; simp only [List.cons.injEq, h, false_and, decide_false]
theorem r_Equal (k : Nat) (A B : List Nat) (hb : A.length < 4611686018427387904) (hk : A.length + 1 ≤ k) :
    marlineref01_Equal.f k (ofN A) (ofN B) = some (decide (A = B)) := by
  obtain ⟨m, rfl⟩ : ∃ m, k = m + A.length + 1 := ⟨k - (A.length + 1), by omega⟩
  unfold marlineref01_Equal.f
  rw [ofN_length, ofN_length]
  by_cases h : A.length = B.length
  · rw [if_pos (by omega)]
    exact equal_go A B h hb A.length 0 m (by omega)
  · rw [if_neg (by omega)]
    have : A ≠ B := fun e => h (by rw [e])
    simp [this]
end Go.Proofs.YtggpejjfgphihaaDoor.Pu
end

section
namespace Go.Proofs.YtggpejjfgphihaaDoor.H
open Go.Proofs.YtggpejjfgphihaaDoor.Given Go.Proofs.YtggpejjfgphihaaDoor.D Go.RowKit Go.Proofs.YtggpejjfgphihaaDoorW.PrintWords Go.Proofs.YtggpejjfgphihaaDoorW.PrintLast Go.Proofs.YtggpejjfgphihaaDoorW.PrintMore
attribute [local go_sem] max2_int min2_int max_two min_two max_three min_three max_four min_four
set_option linter.unusedVariables false
set_option linter.unusedSimpArgs false
def errW : Option Int → Value
  | none => .nilIface
  | some c => .iface 0 (.int .i64 c)
theorem errW_none : errW none = .nilIface := rfl
theorem errW_some (c : Int) : errW (some c) = .iface 0 (.int .i64 c) := rfl
theorem info5 : (Tryd.prog.info? 5).map (fun i => (i.zero, i.size, i.bytes)) = some (some (.int .u8 0), 1, 1) := by kernel_rfl
theorem info35 : (Tryd.prog.info? 35).map (fun i => (i.zero, i.size, i.bytes)) = some (some (.slice none 0 0), 1, 24) := by kernel_rfl
def rd_L1 (xs : List (List Int)) (i : Int) : (List Int) := xs.getD i.toNat ([] : List Int)
theorem at_L1 {w : World} {A : Option Addr} {n : Nat} {xs : List (List Int)} (h : Kd.C (Kd.slice 5 (Kd.int .u8)) w A n xs) (i : Int) (h0 : 0 ≤ i) (h1 : i < n) : ∃ ad A0 c0, A = some ad ∧ w.cell? (ad.add i.toNat) = some (.slice A0 (rd_L1 xs i).length c0) ∧ (rd_L1 xs i).length ≤ c0 ∧ (Kd.int .u8).C w A0 (rd_L1 xs i).length (rd_L1 xs i) := by
  obtain ⟨ad, c, e, _, hK, hc0⟩ := Kd.C_get h ([] : List Int) i h0 h1
  have hc : ∀ j u, c[j]? = some u → w.cell? (ad.add (i.toNat * 1 + j)) = some u := hc0
  obtain ⟨A0, c0, rfl, l0, g0⟩ := hK
  exact ⟨ad, A0, c0, e, by have hq := hc 0 _ rfl; rwa [Nat.mul_one, Nat.add_zero] at hq, l0, g0⟩
end Go.Proofs.YtggpejjfgphihaaDoor.H
end

section
namespace Go.Proofs.YtggpejjfgphihaaDoor.H
open Go.Proofs.YtggpejjfgphihaaDoor.Given Go.Proofs.YtggpejjfgphihaaDoor.D Go.RowKit Go.Proofs.YtggpejjfgphihaaDoorW.PrintWords Go.Proofs.YtggpejjfgphihaaDoorW.PrintLast Go.Proofs.YtggpejjfgphihaaDoorW.PrintMore
attribute [local go_sem] max2_int min2_int max_two min_two max_three min_three max_four min_four
set_option linter.unusedVariables false
set_option linter.unusedSimpArgs false
def wire_Put.l0 : Nat → List Int → Int → Int → Option (List Int)
  | 0, _, _, _ => none
  | k + 1, x0, x1, x7 => if x7 ≥ 0 then (if 0 ≤ (wrap64 (8 * x7)) then (if x0.length < 140737488355328 then (wire_Put.l0 k (x0 ++ [(shr .u64 x1 (wrap64 (8 * x7))) % 256]) x1 (wrap64 (x7 - 1))) else (none)) else (none)) else (some x0)
def wire_Put.f (k : Nat) (l0 : List Int) (a1 : Int) (a2 : Int) : Option (List Int) := wire_Put.l0 k l0 a1 (wrap64 (a2 - 1))
set_option maxHeartbeats 8000000 in
set_option maxRecDepth 100000 in
theorem wire_Put.calls (k : Nat) (P0_ : Nat → Prop) (u9000_ : Value) (l0 : List Int) (a1 : Int) (a2 : Int) (r : List Int) (w0 w : World) (hB : Below w0.heap.size w0 w) (ho0 : Kd.R (Kd.int .u8) 5 w w0.heap.size P0_ u9000_ l0) (h : wire_Put.f k l0 a1 a2 = some r) :
    Calls Tryd.prog 79 #[u9000_, .int .u64 a1, .int .i64 a2] w fun e w' => ∃ v0_ : Value, e = .returned (v0_) ∧ Kd.R (Kd.int .u8) 5 w' w0.heap.size (fun k_ => (P0_ k_ ∨ w.heap.size ≤ k_)) v0_ r ∧ Below w0.heap.size w0 w' ∧ Kept w w' (fun k_ => P0_ k_) := by
  have HO0 := Aside0.mk (show Kd.R (Kd.int .u8) 5 w w0.heap.size (fun k_ => (P0_ k_ ∨ w.heap.size ≤ k_)) u9000_ l0 from Kd.R_mono ho0 (fun k_ hk => (.inl hk)))
  have HK := Aside0.mk (Kept.refl w (fun k_ => P0_ k_))
  have HW0 := Aside0.mk hB.size
  have HB := Aside0.mk hB
  clear hB
  have H : (wire_Put.l0 k l0 a1 (wrap64 (a2 - 1))) = some r := h
  clear h
  have H' := Aside0.mk H
  clear H
  go_enter Tryd.func79, Tryd.ntmps79
  go_wp2
  go_loopg [0, 7] k (fun kq v0 v7 w' => ∃ (x0_1 : List Int) (x7_1 : Int), v7 = .int .i64 x7_1 ∧ Aside0 (wire_Put.l0 kq x0_1 a1 x7_1 = some r) ∧ Aside0 (kq ≤ k) ∧ Aside0 (Kd.R (Kd.int .u8) 5 w' w0.heap.size (fun k_ => (P0_ k_ ∨ w.heap.size ≤ k_)) v0 x0_1) ∧ Aside0 (Kept w w' (fun k_ => P0_ k_)) ∧ Aside0 (Below w0.heap.size w0 w'))
  case atStart => exact ⟨(l0), (wrap64 (a2 - 1)), (by first | rfl | (simp; done) | (simp [*]; done)), H', ⟨Nat.le_refl _⟩, ⟨by (with_reducible repeat (first | apply Kd.R_alloc | apply Kd.R_drewN | apply Kd.R_drew)); exact HO0.out⟩, ⟨by repeat (first | (with_reducible first | exact HK.out | apply Kept.alloc | apply Kept.drewN | apply Kept.drew) | exact HK.out)⟩, ⟨by repeat (first | (with_reducible first | exact HB.out | apply below_alloc | apply pw_below_drewN | apply below_drew1) | exact HB.out)⟩⟩
  case round =>
    clear H'
    try clear p2
    obtain ⟨x0_1, x7_1, rfl, HA, HK1, HO_0, HK, HB⟩ := hrel
    cases gk with
    | zero => exact absurd HA.out (by simp [wire_Put.l0])
    | succ k1 =>
      have H := HA.out
      clear HA
      simp only [wire_Put.l0] at H
      by_cases c4 : x7_1 ≥ 0
      · rw [if_pos c4] at H
        have c4b0 : decide (0 ≤ x7_1) = true := decide_eq_true c4
        clear c4
        obtain ⟨ji5, hji5⟩ : ∃ j_ : Int, (wrap64 (8 * x7_1)) = j_ := ⟨_, rfl⟩
        replace H : (if 0 ≤ (ji5) then (if x0_1.length < 140737488355328 then (wire_Put.l0 k1 (x0_1 ++ [(shr .u64 a1 (ji5)) % 256]) a1 (wrap64 (x7_1 - 1))) else (none)) else (none)) = some r := by first | (rw [hji5] at H; exact H) | (simp only [hji5] at H ⊢; exact H)
        have hji5w : (IntKind.i64.wrap (8 * x7_1)) = ji5 := (i64_w _).trans hji5
        by_cases c6 : 0 ≤ (ji5)
        · rw [if_pos c6] at H
          have c6b0 := eq_true c6
          have c6b1 : decide (0 ≤ (ji5)) = true := decide_eq_true c6
          clear c6
          obtain ⟨ji7, hji7⟩ : ∃ j_ : Int, (shr .u64 a1 (ji5)) = j_ := ⟨_, rfl⟩
          replace H : (if x0_1.length < 140737488355328 then (wire_Put.l0 k1 (x0_1 ++ [(ji7) % 256]) a1 (wrap64 (x7_1 - 1))) else (none)) = some r := by first | (rw [hji7] at H; exact H) | (simp only [hji7] at H ⊢; exact H)
          have hji7_ : (a1 / 2 ^ min (ji5).toNat 64) = ji7 := hji7
          have hji7z : (ji5) ≤ 64 → (a1 / 2 ^ (ji5).toNat) = ji7 := shr_small hji7
          by_cases c8 : x0_1.length < 140737488355328
          · rw [if_pos c8] at H
            have LMc8 := Aside0.mk c8
            clear c8
            obtain ⟨y101, hy101⟩ : ∃ y_ : List Int, y_ = (x0_1 ++ [(ji7) % 256]) := ⟨_, rfl⟩
            replace H : (wire_Put.l0 k1 y101 a1 (wrap64 (x7_1 - 1))) = some r := by first | (rw [hy101]; with_reducible exact H) | (have H2_ := (Option.bind_some _ _).symm.trans H; rw [hy101]; with_reducible exact H2_) | (have H2_ := (Option.bind_some _ _).symm.trans H; with_reducible exact H2_) | with_reducible exact H | (rw [hy101]; exact H) | exact H
            have Ny101 := Aside0.mk hy101
            clear hy101
            have H' := Aside0.mk H
            clear H
            go_wp2_with (first | ((with_reducible refine gate_builtin (b := .append) (xs := #[.tmp 14, .tmp 20]) rfl ?_); at_builtin; refine Kd.R_append (Kd.int .u8) (w0 := w0) w0.heap.size rfl (.tmp 14) (.tmp 20) 35 5 (.int .u8 0) 1 rfl Tryd.underlying35 info5 rfl (by decide) (by omega) u0 x0_1 ((ji7) % 256) [.int .u8 ((ji7) % 256)] (fun k_ => (P0_ k_ ∨ w.heap.size ≤ k_)) (fun _ => False) rfl rfl ?aP (fun _ hk => hk.elim) ?aF ?aO ?aB ?aS ?aL ?_; (case aP => exact rfl); (case aB => exact (by repeat (first | (with_reducible first | exact HB.out | apply below_alloc | apply pw_below_drewN | apply below_drew1) | exact HB.out))); (case aF => exact (fun k_ hk => (.inr (Nat.le_trans (by first | exact HK.out.1 | exact (show Kept w _ (fun k_ => P0_ k_) from by repeat (first | (with_reducible first | exact HK.out | apply Kept.alloc | apply Kept.drewN | apply Kept.drew) | exact HK.out)).1) hk)))); (case aO => exact (by (with_reducible repeat (first | apply Kd.R_alloc | apply Kd.R_drewN | apply Kd.R_drew)); exact HO_0.out)); (case aS => exact (below_size (by repeat (first | (with_reducible first | exact HB.out | apply below_alloc | apply pw_below_drewN | apply below_drew1) | exact HB.out)))); (case aL => have := LMc8.out; omega); intro v102 w9 ho hb hg hat; rw [← Ny101.out] at ho; have n0_ := Aside0.mk (hb); have n1_ := Aside0.mk (Kept.of_grown (S := (fun k_ => P0_ k_)) hg (by repeat (first | (with_reducible first | exact HK.out | apply Kept.alloc | apply Kept.drewN | apply Kept.drew) | exact HK.out)) (fun k_ e_ => (HO_0.out.1 k_ e_))); have n2_ := Aside0.mk (ho); clear HB; clear HK; clear HO_0; have HB := n0_; have HK := n1_; have HO103 := n2_; clear n0_ n1_ n2_; clear ho hb hg hat))
            go_roundg k1
            case measure => have := HK1.out; omega
            case rel => exact ⟨(y101), (wrap64 (x7_1 - 1)), (by first | rfl | (simp; done) | (simp [*]; done)), H', ⟨by have := HK1.out; omega⟩, ⟨by (with_reducible repeat (first | apply Kd.R_alloc | apply Kd.R_drewN | apply Kd.R_drew)); exact HO103.out⟩, ⟨by repeat (first | (with_reducible first | exact HK.out | apply Kept.alloc | apply Kept.drewN | apply Kept.drew) | exact HK.out)⟩, ⟨by repeat (first | (with_reducible first | exact HB.out | apply below_alloc | apply pw_below_drewN | apply below_drew1) | exact HB.out)⟩⟩
          · rw [if_neg c8] at H
            exact absurd H (by simp)
        · rw [if_neg c6] at H
          exact absurd H (by simp)
      · rw [if_neg c4] at H
        have c4b0 : decide (0 ≤ x7_1) = false := decide_eq_false c4
        clear c4
        obtain rfl := Option.some.inj H
        go_wp2
        go_ret
        exact ⟨_, by first | rfl | (simp [errW_none, errW_some] <;> rfl) | (simp [*, errW_none, errW_some] <;> rfl), by (with_reducible repeat (first | apply Kd.R_alloc | apply Kd.R_drewN | apply Kd.R_drew)); exact HO_0.out, by repeat (first | (with_reducible first | exact HB.out | apply below_alloc | apply pw_below_drewN | apply below_drew1) | exact HB.out), by repeat (first | (with_reducible first | exact HK.out | apply Kept.alloc | apply Kept.drewN | apply Kept.drew) | exact HK.out)⟩
def proto_Short.f (a0 : Int) : Option (Bool) := some (decide (a0 < 256))
set_option maxHeartbeats 8000000 in
set_option maxRecDepth 100000 in
theorem proto_Short.calls (a0 : Int) (r : Bool) (w : World) (h : proto_Short.f a0 = some r) :
    Calls Tryd.prog 80 #[.int .u16 a0] w fun e w' => e = .returned (.bool r) ∧ Drawn0 w w' := by
  have H : (some (decide (a0 < 256))) = some r := h
  clear h
  obtain rfl := Option.some.inj H
  go_enter Tryd.func80, Tryd.ntmps80
  go_wp2
  go_ret
  exact ⟨by first | rfl | (simp; done) | (simp [*]; done), by repeat (first | exact Drawn0.refl _ | apply Drawn0.step)⟩
def proto_Put.f (k : Nat) (a0 : Int) (a1 : Bool) : Option (List Int) := (wire_Put.f k ([] : List Int) (IntKind.u64.wrap (a0)) 2).bind fun t104 => (if a1 = true then ((proto_Short.f a0).bind fun t107 => (if t107 = true then (if 1 ≤ (t104.length : Int) then (some (t104.drop (1 : Int).toNat)) else (none)) else (some t104))) else (some t104))
set_option maxHeartbeats 8000000 in
set_option maxRecDepth 100000 in
theorem proto_Put.calls (k : Nat) (a0 : Int) (a1 : Bool) (r : List Int) (w : World) (h : proto_Put.f k a0 a1 = some r) :
    Calls Tryd.prog 60 #[.int .u16 a0, .bool a1] w fun e w' => ∃ v0_ : Value, e = .returned (v0_) ∧ Kd.Q (Kd.int .u8) 5 w' w.heap.size (fun _ => True) v0_ r ∧ Below w.heap.size w w' := by
  have HB := Aside0.mk (Below.refl w.heap.size w)
  have H : ((wire_Put.f k ([] : List Int) (IntKind.u64.wrap (a0)) 2).bind fun t104 => (if a1 = true then ((proto_Short.f a0).bind fun t107 => (if t107 = true then (if 1 ≤ (t104.length : Int) then (some (t104.drop (1 : Int).toNat)) else (none)) else (some t104))) else (some t104))) = some r := h
  clear h
  replace H := Option.bind_eq_some_iff.mp H
  obtain ⟨t104, A30, H⟩ := H
  replace H : (if a1 = true then ((proto_Short.f a0).bind fun t107 => (if t107 = true then (if 1 ≤ (t104.length : Int) then (some (t104.drop (1 : Int).toNat)) else (none)) else (some t104))) else (some t104)) = some r := H
  have A3 := Aside0.mk A30
  clear A30
  by_cases c4 : a1 = true
  · subst c4
    have H1 : ((proto_Short.f a0).bind fun t107 => (if t107 = true then (if 1 ≤ (t104.length : Int) then (some (t104.drop (1 : Int).toNat)) else (none)) else (some t104))) = some r := by rw [if_pos rfl] at H; exact H
    clear H
    have H := H1
    clear H1
    replace H := Option.bind_eq_some_iff.mp H
    obtain ⟨t107, A50, H⟩ := H
    replace H : (if t107 = true then (if 1 ≤ (t104.length : Int) then (some (t104.drop (1 : Int).toNat)) else (none)) else (some t104)) = some r := H
    have A5 := Aside0.mk A50
    clear A50
    by_cases c6 : t107 = true
    · subst c6
      have H1 : (if 1 ≤ (t104.length : Int) then (some (t104.drop (1 : Int).toNat)) else (none)) = some r := by rw [if_pos rfl] at H; exact H
      clear H
      have H := H1
      clear H1
      by_cases c7 : 1 ≤ (t104.length : Int)
      · rw [if_pos c7] at H
        have c7b0 := eq_true c7
        have c7b1 : decide (1 ≤ (t104.length : Int)) = true := decide_eq_true c7
        clear c7
        obtain ⟨y108, hy108⟩ : ∃ y_ : List Int, y_ = (t104.drop (1 : Int).toNat) := ⟨_, rfl⟩
        replace H : (some y108) = some r := by first | (rw [hy108]; with_reducible exact H) | (have H2_ := (Option.bind_some _ _).symm.trans H; rw [hy108]; with_reducible exact H2_) | (have H2_ := (Option.bind_some _ _).symm.trans H; with_reducible exact H2_) | with_reducible exact H | (rw [hy108]; exact H) | exact H
        have Ny108 := Aside0.mk hy108
        clear hy108
        obtain rfl := Option.some.inj H
        go_enter Tryd.func60, Tryd.ntmps60
        go_wp2_with (first | ((with_reducible refine gate_callee (f := 79) rfl ?_); refine goesL_ (some 8) rfl rfl Tryd.func79 (by kernel_rfl) rfl #[.slice none 0 0, .int .u64 (IntKind.u64.wrap (a0)), .int .i64 2] rfl (by (try simp only [List.map_toArray, List.map_cons, List.map_nil]); first | done | rfl | (simp only [List.length_drop, List.length_take]; rfl)) ?_; (refine (wire_Put.calls k (fun k_ => some k_ = (.slice none 0 0 : Value).ownBlock) (.slice none 0 0) ([] : List Int) (IntKind.u64.wrap (a0)) 2 t104 w _ ?side1 ?side2 A3.out).mono ?_); (case side1 => repeat (first | (with_reducible first | exact HB.out | apply below_alloc | apply pw_below_drewN | apply below_drew1) | exact HB.out)); (case side2 => exact Kd.R_nil _ _ _ _ _); rintro e w8 ⟨v105, rfl, ho0, hb, hkp⟩; refine ⟨_, rfl, ?_⟩; have n0_ := Aside0.mk (Kd.R_mono (ok' := fun k_ => True) ho0 (fun k_ hk_ => trivial)); have n1_ := Aside0.mk (hb); clear HB; have HO106 := n0_; have HB := n1_; clear n0_ n1_; (try clear hb); (try clear hkp); (try clear ho0)) | (go_at_call 80; (with_reducible refine (proto_Short.calls a0 true _ A5.out).mono ?_); rintro e w' ⟨rfl, ⟨nd, rfl⟩⟩; obtain ⟨Ao9, co9, eo9⟩ := Kd.R_slice HO106.out; subst eo9; have q10 : (1 : Int) ≤ ((t104.length : Int) : Int) := of_decide_eq_true (by first | (with_reducible assumption) | assumption); obtain ⟨i010, hi010, _, hsz10, _⟩ := info_parts info5; have hcut10 := cut_from (P := Tryd.prog) 35 5 .i64 Tryd.underlying35 hi010 1 hsz10 Ao9 t104.length co9 1 (by omega) q10; have hr10 := Kd.Q_drop (k := (1 : Int).toNat) (Kd.Q_of_R HO106.out) (by omega); obtain ⟨A10, hA10⟩ : ∃ A1, A1 = (if co9 = (1 : Int).toNat then Ao9 else (Ao9 : Option Addr).map (·.add ((1 : Int).toNat * 1))) := ⟨_, rfl⟩; obtain ⟨c10, hc10⟩ : ∃ c1, c1 = co9 - (1 : Int).toNat := ⟨_, rfl⟩; have hy10 : y108.length = t104.length - (1 : Int).toNat := (by rw [Ny108.out, List.length_drop]); rw [← Ny108.out] at hr10; rw [← hy10, ← hA10, ← hc10] at hcut10; replace hr10 : Kd.Q (Kd.int .u8) 5 w8 w.heap.size (fun _ => True) (.slice A10 y108.length c10) y108 := (by rw [hA10, hc10, hy10]; exact hr10); have HE10 : Aside0 ((Value.slice A10 y108.length c10).ownBlock = (.slice Ao9 t104.length co9 : Value).ownBlock) := ⟨by rw [hA10]; split <;> (cases (Ao9 : Option Addr) <;> rfl)⟩; clear hy10 hi010 hsz10 HO106 hA10 hc10; have HO110 := Aside0.mk hr10; clear hr10; replace q10 := eq_true q10))
        go_ret
        exact ⟨_, by first | rfl | (simp [errW_none, errW_some] <;> rfl) | (simp [*, errW_none, errW_some] <;> rfl), by (with_reducible repeat (first | apply Kd.Q_alloc | apply Kd.Q_drewN | apply Kd.Q_drew)); exact HO110.out, by repeat (first | (with_reducible first | exact HB.out | apply below_alloc | apply pw_below_drewN | apply below_drew1) | exact HB.out)⟩
      · rw [if_neg c7] at H
        exact absurd H (by simp)
    · replace c6 := Bool.eq_false_iff.mpr c6
      subst c6
      have H1 : (some t104) = some r := by rw [if_neg (show ¬ (false = true) by decide)] at H; exact H
      clear H
      have H := H1
      clear H1
      obtain rfl := Option.some.inj H
      go_enter Tryd.func60, Tryd.ntmps60
      go_wp2_with (first | ((with_reducible refine gate_callee (f := 79) rfl ?_); refine goesL_ (some 8) rfl rfl Tryd.func79 (by kernel_rfl) rfl #[.slice none 0 0, .int .u64 (IntKind.u64.wrap (a0)), .int .i64 2] rfl (by (try simp only [List.map_toArray, List.map_cons, List.map_nil]); first | done | rfl | (simp only [List.length_drop, List.length_take]; rfl)) ?_; (refine (wire_Put.calls k (fun k_ => some k_ = (.slice none 0 0 : Value).ownBlock) (.slice none 0 0) ([] : List Int) (IntKind.u64.wrap (a0)) 2 t104 w _ ?side1 ?side2 A3.out).mono ?_); (case side1 => repeat (first | (with_reducible first | exact HB.out | apply below_alloc | apply pw_below_drewN | apply below_drew1) | exact HB.out)); (case side2 => exact Kd.R_nil _ _ _ _ _); rintro e w11 ⟨v105, rfl, ho0, hb, hkp⟩; refine ⟨_, rfl, ?_⟩; have n0_ := Aside0.mk (Kd.R_mono (ok' := fun k_ => True) ho0 (fun k_ hk_ => trivial)); have n1_ := Aside0.mk (hb); clear HB; have HO106 := n0_; have HB := n1_; clear n0_ n1_; (try clear hb); (try clear hkp); (try clear ho0)) | (go_at_call 80; (with_reducible refine (proto_Short.calls a0 false _ A5.out).mono ?_); rintro e w' ⟨rfl, ⟨nd, rfl⟩⟩))
      go_ret
      exact ⟨_, by first | rfl | (simp [errW_none, errW_some] <;> rfl) | (simp [*, errW_none, errW_some] <;> rfl), Kd.Q_of_R (by (with_reducible repeat (first | apply Kd.R_alloc | apply Kd.R_drewN | apply Kd.R_drew)); exact HO106.out), by repeat (first | (with_reducible first | exact HB.out | apply below_alloc | apply pw_below_drewN | apply below_drew1) | exact HB.out)⟩
  · replace c4 := Bool.eq_false_iff.mpr c4
    subst c4
    have H1 : (some t104) = some r := by rw [if_neg (show ¬ (false = true) by decide)] at H; exact H
    clear H
    have H := H1
    clear H1
    obtain rfl := Option.some.inj H
    go_enter Tryd.func60, Tryd.ntmps60
    go_wp2_with (first | ((with_reducible refine gate_callee (f := 79) rfl ?_); refine goesL_ (some 8) rfl rfl Tryd.func79 (by kernel_rfl) rfl #[.slice none 0 0, .int .u64 (IntKind.u64.wrap (a0)), .int .i64 2] rfl (by (try simp only [List.map_toArray, List.map_cons, List.map_nil]); first | done | rfl | (simp only [List.length_drop, List.length_take]; rfl)) ?_; (refine (wire_Put.calls k (fun k_ => some k_ = (.slice none 0 0 : Value).ownBlock) (.slice none 0 0) ([] : List Int) (IntKind.u64.wrap (a0)) 2 t104 w _ ?side1 ?side2 A3.out).mono ?_); (case side1 => repeat (first | (with_reducible first | exact HB.out | apply below_alloc | apply pw_below_drewN | apply below_drew1) | exact HB.out)); (case side2 => exact Kd.R_nil _ _ _ _ _); rintro e w12 ⟨v105, rfl, ho0, hb, hkp⟩; refine ⟨_, rfl, ?_⟩; have n0_ := Aside0.mk (Kd.R_mono (ok' := fun k_ => True) ho0 (fun k_ hk_ => trivial)); have n1_ := Aside0.mk (hb); clear HB; have HO106 := n0_; have HB := n1_; clear n0_ n1_; (try clear hb); (try clear hkp); (try clear ho0)))
    go_ret
    exact ⟨_, by first | rfl | (simp [errW_none, errW_some] <;> rfl) | (simp [*, errW_none, errW_some] <;> rfl), Kd.Q_of_R (by (with_reducible repeat (first | apply Kd.R_alloc | apply Kd.R_drewN | apply Kd.R_drew)); exact HO106.out), by repeat (first | (with_reducible first | exact HB.out | apply below_alloc | apply pw_below_drewN | apply below_drew1) | exact HB.out)⟩
def bytes_Equal.f (l0 : List Int) (l1 : List Int) : Option (Bool) := some ((strOfNums l0).toList == (strOfNums l1).toList)
set_option maxHeartbeats 8000000 in
set_option maxRecDepth 100000 in
theorem bytes_Equal.calls (A0 : Option Addr) (c0 : Nat) (l0 : List Int) (A1 : Option Addr) (c1 : Nat) (l1 : List Int) (r : Bool) (w : World) (hr0 : Kd.C (Kd.int .u8) w A0 l0.length l0) (hc0 : l0.length ≤ c0) (hr1 : Kd.C (Kd.int .u8) w A1 l1.length l1) (hc1 : l1.length ≤ c1) (h : bytes_Equal.f l0 l1 = some r) :
    Calls Tryd.prog 67 #[.slice A0 l0.length c0, .slice A1 l1.length c1] w fun e w' => e = .returned (.bool r) ∧ Drawn0 w w' := by
  have HR0 := Aside0.mk hr0
  have HC0 := Aside0.mk hc0
  clear hr0 hc0
  have HR1 := Aside0.mk hr1
  have HC1 := Aside0.mk hc1
  clear hr1 hc1
  have H : (some ((strOfNums l0).toList == (strOfNums l1).toList)) = some r := h
  clear h
  obtain rfl := Option.some.inj H
  have hcv3 := Kd.C_string (P := Tryd.prog) (A := A0) (c := c0) Tryd.underlying35 Tryd.underlying5 Tryd.underlying9 HR0.out
  have hcv4 := Kd.C_string (P := Tryd.prog) (A := A1) (c := c1) Tryd.underlying35 Tryd.underlying5 Tryd.underlying9 HR1.out
  go_enter Tryd.func67, Tryd.ntmps67
  go_wp2
  go_ret
  exact ⟨by first | rfl | (simp; done) | (simp [*]; done), by repeat (first | exact Drawn0.refl _ | apply Drawn0.step)⟩
def bytes_HasPrefix.f (l0 : List Int) (l1 : List Int) : Option (Bool) := if (l0.length : Int) ≥ (l1.length : Int) then (if 0 ≤ (l1.length : Int) then (if (l1.length : Int) ≤ (l0.length : Int) then ((bytes_Equal.f (l0.take ((l1.length : Int) : Int).toNat) l1).bind fun t116 => (some t116)) else (none)) else (none)) else (some false)
set_option maxHeartbeats 8000000 in
set_option maxRecDepth 100000 in
theorem bytes_HasPrefix.calls (A0 : Option Addr) (c0 : Nat) (l0 : List Int) (A1 : Option Addr) (c1 : Nat) (l1 : List Int) (r : Bool) (w : World) (hr0 : Kd.C (Kd.int .u8) w A0 l0.length l0) (hc0 : l0.length ≤ c0) (hr1 : Kd.C (Kd.int .u8) w A1 l1.length l1) (hc1 : l1.length ≤ c1) (h : bytes_HasPrefix.f l0 l1 = some r) :
    Calls Tryd.prog 77 #[.slice A0 l0.length c0, .slice A1 l1.length c1] w fun e w' => e = .returned (.bool r) ∧ Drawn0 w w' := by
  have HR0 := Aside0.mk hr0
  have HC0 := Aside0.mk hc0
  clear hr0 hc0
  have HR1 := Aside0.mk hr1
  have HC1 := Aside0.mk hc1
  clear hr1 hc1
  have H : (if (l0.length : Int) ≥ (l1.length : Int) then (if 0 ≤ (l1.length : Int) then (if (l1.length : Int) ≤ (l0.length : Int) then ((bytes_Equal.f (l0.take ((l1.length : Int) : Int).toNat) l1).bind fun t116 => (some t116)) else (none)) else (none)) else (some false)) = some r := h
  obtain ⟨cm1, hcm1⟩ : ∃ m_ : List Int, m_ = (l0.take ((l1.length : Int) : Int).toNat) := ⟨_, rfl⟩
  (try rw [← hcm1] at H)
  have HCM1 := Aside0.mk hcm1
  clear hcm1
  clear h
  by_cases c3 : (l0.length : Int) ≥ (l1.length : Int)
  · rw [if_pos c3] at H
    have c3b0 : decide ((l1.length : Int) ≤ (l0.length : Int)) = true := decide_eq_true c3
    have c3b1 : decide (l1.length ≤ l0.length) = true := decide_eq_true (Int.ofNat_le.mp c3)
    clear c3
    by_cases c4 : 0 ≤ (l1.length : Int)
    · rw [if_pos c4] at H
      have c4b0 := eq_true c4
      have c4b1 : decide (0 ≤ (l1.length : Int)) = true := decide_eq_true c4
      clear c4
      by_cases c5 : (l1.length : Int) ≤ (l0.length : Int)
      · rw [if_pos c5] at H
        have c5b0 := eq_true c5
        have c5b1 : decide ((l1.length : Int) ≤ (l0.length : Int)) = true := decide_eq_true c5
        clear c5
        replace H := Option.bind_eq_some_iff.mp H
        obtain ⟨t116, A60, H⟩ := H
        replace H : (some t116) = some r := H
        have A6 := Aside0.mk A60
        clear A60
        obtain rfl := Option.some.inj H
        obtain ⟨i07, hi07, _, hsz7, _⟩ := info_parts info5
        obtain ⟨hcut7, hA7, hC7⟩ := print_take_of (P := Tryd.prog) (Value.int .u8) 0 35 5 .i64 Tryd.underlying35 hi07 hsz7 A0 c0 l0 (l1.length : Int) (of_decide_eq_true (by first | (with_reducible assumption) | assumption)) (of_decide_eq_true (by first | (with_reducible assumption) | assumption)) HC0.out
        rw [← HCM1.out] at hcut7 hA7 hC7
        have HCM1L := Aside0.mk (show cm1.length = ((l1.length : Int) : Int).toNat by rw [HCM1.out, List.length_take]; have h_ : ((l1.length : Int) : Int) ≤ (l0.length : Int) := of_decide_eq_true (by first | (with_reducible assumption) | assumption); omega)
        have HR115 := Aside0.mk (Kd.C_of_reads (h1 := fun _ => rfl) (hA7 _ (Kd.reads_of_C HR0.out)))
        have HC115 := Aside0.mk hC7
        clear hA7 hC7 hi07 hsz7
        go_enter Tryd.func77, Tryd.ntmps77
        go_wp2_with (first | (go_at_call 67; refine calls_of_args (args' := #[.slice A0 cm1.length c0, .slice A1 l1.length c1]) (by first | (rw [show cm1.length = (l1.length : Int).toNat from HCM1L.out] <;> rfl) |  rfl) ?_; (with_reducible refine (bytes_Equal.calls _ _ cm1 _ _ l1 t116 _ ?side1 ?side2 ?side3 ?side4 A6.out).mono ?_); (case side1 => repeat (first | exact HR115.out | (with_reducible refine Kd.C_alloc ?_ _) | (with_reducible refine Kd.C_drewN ?_ _) | (with_reducible refine Kd.C_drew ?_))); (case side2 => exact HC115.out); (case side3 => repeat (first | exact HR1.out | (with_reducible refine Kd.C_alloc ?_ _) | (with_reducible refine Kd.C_drewN ?_ _) | (with_reducible refine Kd.C_drew ?_))); (case side4 => exact HC1.out); rintro e w' ⟨rfl, ⟨nd, rfl⟩⟩))
        go_ret
        exact ⟨by first | rfl | (simp; done) | (simp [*]; done), by repeat (first | exact Drawn0.refl _ | apply Drawn0.step)⟩
      · rw [if_neg c5] at H
        exact absurd H (by simp)
    · rw [if_neg c4] at H
      exact absurd H (by simp)
  · rw [if_neg c3] at H
    have c3b0 : decide ((l1.length : Int) ≤ (l0.length : Int)) = false := decide_eq_false c3
    have c3b1 : decide (l1.length ≤ l0.length) = false := decide_eq_false (fun h => c3 (Int.ofNat_le.mpr h))
    clear c3
    obtain rfl := Option.some.inj H
    go_enter Tryd.func77, Tryd.ntmps77
    go_wp2
    go_ret
    exact ⟨by first | rfl | (simp; done) | (simp [*]; done), by repeat (first | exact Drawn0.refl _ | apply Drawn0.step)⟩
def proto_Right.f (a0 : Int) : Option (Bool) := if (Go.bits .and .u16 a0 257) = 1 then (some (a0 != 255)) else (some false)
set_option maxHeartbeats 8000000 in
set_option maxRecDepth 100000 in
theorem proto_Right.calls (a0 : Int) (r : Bool) (w : World) (h : proto_Right.f a0 = some r) :
    Calls Tryd.prog 69 #[.int .u16 a0] w fun e w' => e = .returned (.bool r) ∧ Drawn0 w w' := by
  have H : (if (Go.bits .and .u16 a0 257) = 1 then (some (a0 != 255)) else (some false)) = some r := h
  clear h
  by_cases c2 : (Go.bits .and .u16 a0 257) = 1
  · rw [if_pos c2] at H
    have c2b0 : ((Go.bits .and .u16 a0 257) == 1) = true := beq_iff_eq.mpr c2
    have c2b1 : ((Go.bits .and .u16 a0 257) != 1) = false := bne_eq_false_iff_eq.mpr c2
    clear c2
    obtain rfl := Option.some.inj H
    go_enter Tryd.func69, Tryd.ntmps69
    go_wp2
    go_ret
    exact ⟨by first | rfl | (simp; done) | (simp [*]; done), by repeat (first | exact Drawn0.refl _ | apply Drawn0.step)⟩
  · rw [if_neg c2] at H
    have c2b0 : ((Go.bits .and .u16 a0 257) == 1) = false := beq_eq_false_iff_ne.mpr c2
    have c2b1 : ((Go.bits .and .u16 a0 257) != 1) = true := bne_iff_ne.mpr c2
    obtain rfl := Option.some.inj H
    go_enter Tryd.func69, Tryd.ntmps69
    go_wp2
    go_ret
    exact ⟨by first | rfl | (simp; done) | (simp [*]; done), by repeat (first | exact Drawn0.refl _ | apply Drawn0.step)⟩
end Go.Proofs.YtggpejjfgphihaaDoor.H
end

section
namespace Go.Proofs.YtggpejjfgphihaaDoor.Given
open Go.RowKit Go.Proofs.YtggpejjfgphihaaDoorW.PrintWords Go.Proofs.YtggpejjfgphihaaDoorW.PrintLast Go.Proofs.YtggpejjfgphihaaDoorW.PrintMore
open Go.Proofs.YtggpejjfgphihaaDoor.H
set_option linter.unusedVariables false
set_option linter.unusedSimpArgs false
def cutOf (has : Bool) (l0 l1 : List Int) : List Int := if has = true then l0.drop l1.length else l0
theorem prefix_le {l0 l1 : List Int} (h : bytes_HasPrefix.f l0 l1 = some true) : l1.length ≤ l0.length := by
  unfold bytes_HasPrefix.f at h
  by_cases hg : (l1.length : Int) ≤ (l0.length : Int)
  · omega
  · exfalso
    revert h
    simp [hg]
set_option maxHeartbeats 2000000 in
set_option maxRecDepth 100000 in
theorem cutPrefix_calls (A0 : Option Addr) (c0 : Nat) (l0 : List Int) (A1 : Option Addr) (c1 : Nat) (l1 : List Int) (has : Bool) (w : World) (hr0 : Kd.C (Kd.int .u8) w A0 l0.length l0) (hc0 : l0.length ≤ c0) (hr1 : Kd.C (Kd.int .u8) w A1 l1.length l1) (hc1 : l1.length ≤ c1)
    (h : bytes_HasPrefix.f l0 l1 = some has) :
    Calls Tryd.prog 57 #[.slice A0 l0.length c0, .slice A1 l1.length c1] w fun e w' => ∃ (A' : Option Addr) (c' : Nat), e = .returned (.tuple #[.slice A' (cutOf has l0 l1).length c', .bool has]) ∧ Drawn0 w w' ∧ Kd.C (Kd.int .u8) w A' (cutOf has l0 l1).length (cutOf has l0 l1) ∧ (cutOf has l0 l1).length ≤ c' := by
  have HR0 := Aside0.mk hr0
  have HR1 := Aside0.mk hr1
  have HC0 := Aside0.mk hc0
  have HC1 := Aside0.mk hc1
  have HH := Aside0.mk h
  clear hr0 hr1 hc0 hc1
  cases has with
  | true =>
    have hle := prefix_le h
    clear h
    obtain ⟨i0, hi0, _, hsz, _⟩ := info_parts info5
    obtain ⟨A', hcut, hA, hC⟩ := print_drop_of (P := Tryd.prog) (Value.int .u8) 0 35 5 .i64 Tryd.underlying35 hi0 hsz A0 c0 l0 (l1.length : Int) (by omega) (by omega) HC0.out
    have hRA := Kd.C_of_reads (h1 := fun _ => rfl) (hA _ (Kd.reads_of_C HR0.out))
    rw [Int.toNat_natCast] at hcut hC hRA
    obtain ⟨m, hm⟩ : ∃ m : List Int, m = l0.drop l1.length := ⟨_, rfl⟩
    have hmo : cutOf true l0 l1 = m := by rw [hm]; rfl
    rw [← hm] at hcut hC hRA
    rw [hmo]
    have HRA := Aside0.mk hRA
    have HCA := Aside0.mk hC
    clear hA hC hRA hm hmo hi0 hsz hle
    go_enter Tryd.func57, Tryd.ntmps57
    go_wp2_with fail
    refine (bytes_HasPrefix.calls A0 c0 l0 A1 c1 l1 true _ HR0.out HC0.out HR1.out HC1.out HH.out).mono ?_
    rintro e w' ⟨rfl, ⟨nd, rfl⟩⟩
    go_wp2_with fail
    go_ret2
    exact ⟨_, _, rfl, ⟨_, rfl⟩, HRA.out, HCA.out⟩
  | false =>
    clear h
    go_enter Tryd.func57, Tryd.ntmps57
    go_wp2_with fail
    refine (bytes_HasPrefix.calls A0 c0 l0 A1 c1 l1 false _ HR0.out HC0.out HR1.out HC1.out HH.out).mono ?_
    rintro e w' ⟨rfl, ⟨nd, rfl⟩⟩
    go_wp2_with fail
    go_ret2
    exact ⟨_, _, rfl, ⟨_, rfl⟩, HR0.out, HC0.out⟩
end Go.Proofs.YtggpejjfgphihaaDoor.Given
end

section
namespace Go.Proofs.YtggpejjfgphihaaDoor.H
open Go.Proofs.YtggpejjfgphihaaDoor.Given Go.Proofs.YtggpejjfgphihaaDoor.D Go.RowKit Go.Proofs.YtggpejjfgphihaaDoorW.PrintWords Go.Proofs.YtggpejjfgphihaaDoorW.PrintLast Go.Proofs.YtggpejjfgphihaaDoorW.PrintMore
attribute [local go_sem] max2_int min2_int max_two min_two max_three min_three max_four min_four
set_option linter.unusedVariables false
set_option linter.unusedSimpArgs false
def wire_Get.l0 : Nat → Int → List Int → Int → Int → Option (Int)
  | 0, _, _, _, _ => none
  | k + 1, x5, x10, x11, x12 => if x12 < x11 then (if 0 ≤ x12 then (if x12 < (x10.length : Int) then (wire_Get.l0 k (Go.bits .or .u64 (IntKind.u64.wrap (x5 * 256)) (IntKind.u64.wrap (rd x10 x12))) x10 x11 (wrap64 (x12 + 1))) else (none)) else (none)) else (some x5)
def wire_Get.f (k : Nat) (l0 : List Int) (a1 : Int) : Option (Int) := if 0 ≤ a1 then (if a1 ≤ (l0.length : Int) then (wire_Get.l0 k 0 (l0.take (a1 : Int).toNat) ((l0.take (a1 : Int).toNat).length : Int) 0) else (none)) else (none)
set_option maxHeartbeats 8000000 in
set_option maxRecDepth 100000 in
theorem wire_Get.calls (k : Nat) (A0 : Option Addr) (c0 : Nat) (l0 : List Int) (a1 : Int) (r : Int) (w : World) (hr0 : Kd.C (Kd.int .u8) w A0 l0.length l0) (hc0 : l0.length ≤ c0) (h : wire_Get.f k l0 a1 = some r) :
    Calls Tryd.prog 78 #[.slice A0 l0.length c0, .int .i64 a1] w fun e w' => e = .returned (.int .u64 r) ∧ Drawn0 w w' := by
  have HR0 := Aside0.mk hr0
  have HC0 := Aside0.mk hc0
  clear hr0 hc0
  have H : (if 0 ≤ a1 then (if a1 ≤ (l0.length : Int) then (wire_Get.l0 k 0 (l0.take (a1 : Int).toNat) ((l0.take (a1 : Int).toNat).length : Int) 0) else (none)) else (none)) = some r := h
  obtain ⟨cm1, hcm1⟩ : ∃ m_ : List Int, m_ = (l0.take (a1 : Int).toNat) := ⟨_, rfl⟩
  (try rw [← hcm1] at H)
  have HCM1 := Aside0.mk hcm1
  clear hcm1
  clear h
  by_cases c3 : 0 ≤ a1
  · rw [if_pos c3] at H
    have c3b0 := eq_true c3
    have c3b1 : decide (0 ≤ a1) = true := decide_eq_true c3
    clear c3
    by_cases c4 : a1 ≤ (l0.length : Int)
    · rw [if_pos c4] at H
      have c4b0 := eq_true c4
      have c4b1 : decide (a1 ≤ (l0.length : Int)) = true := decide_eq_true c4
      clear c4
      have H' := Aside0.mk H
      clear H
      obtain ⟨i05, hi05, _, hsz5, _⟩ := info_parts info5
      obtain ⟨hcut5, hA5, hC5⟩ := print_take_of (P := Tryd.prog) (Value.int .u8) 0 35 5 .i64 Tryd.underlying35 hi05 hsz5 A0 c0 l0 a1 (of_decide_eq_true (by first | (with_reducible assumption) | assumption)) (of_decide_eq_true (by first | (with_reducible assumption) | assumption)) HC0.out
      rw [← HCM1.out] at hcut5 hA5 hC5
      have HCM1L := Aside0.mk (show cm1.length = (a1 : Int).toNat by rw [HCM1.out, List.length_take]; have h_ : (a1 : Int) ≤ (l0.length : Int) := of_decide_eq_true (by first | (with_reducible assumption) | assumption); omega)
      have HR121 := Aside0.mk (Kd.C_of_reads (h1 := fun _ => rfl) (hA5 _ (Kd.reads_of_C HR0.out)))
      have HC121 := Aside0.mk hC5
      clear hA5 hC5 hi05 hsz5
      go_enter Tryd.func78, Tryd.ntmps78
      go_wp2
      go_loopg [5, 12] k (fun kq v5 v12 w' => ∃ (x5_1 : Int) (x12_1 : Int), v5 = .int .u64 x5_1 ∧ v12 = .int .i64 x12_1 ∧ Aside0 (wire_Get.l0 kq x5_1 cm1 (cm1.length : Int) x12_1 = some r) ∧ Aside0 (kq ≤ k) ∧ Drawn0 w w')
      case atStart => exact ⟨(0), (0), (by first | rfl | (simp; done) | (simp [*]; done)), (by first | rfl | (simp; done) | (simp [*]; done)), H', ⟨Nat.le_refl _⟩, by repeat (first | exact Drawn0.refl _ | apply Drawn0.step)⟩
      case round =>
        clear H'
        try clear p2
        try clear c3
        try clear c3b0
        try clear c3b1
        try clear c4
        try clear c4b0
        try clear c4b1
        obtain ⟨x5_1, x12_1, rfl, rfl, HA, HK1, ⟨m1, rfl⟩⟩ := hrel
        cases gk with
        | zero => exact absurd HA.out (by simp [wire_Get.l0])
        | succ k1 =>
          have H := HA.out
          clear HA
          simp only [wire_Get.l0] at H
          by_cases c6 : x12_1 < (cm1.length : Int)
          · rw [if_pos c6] at H
            have c6b0 : decide (x12_1 < (cm1.length : Int)) = true := decide_eq_true c6
            clear c6
            by_cases c7 : 0 ≤ x12_1
            · rw [if_pos c7] at H
              have c7b0 : decide (0 ≤ x12_1) = true := decide_eq_true c7
              clear c7
              by_cases c8 : x12_1 < (cm1.length : Int)
              · rw [if_pos c8] at H
                have c8b0 : decide (x12_1 < (cm1.length : Int)) = true := decide_eq_true c8
                clear c8
                have H' := Aside0.mk H
                clear H
                have p122 : 0 ≤ (x12_1 : Int) := of_decide_eq_true (by first | (with_reducible assumption) | assumption)
                have q122 : x12_1 < (cm1.length : Int) := of_decide_eq_true (by first | (with_reducible assumption) | assumption)
                obtain ⟨ad122, e122, hx122_0⟩ := Kd.at_int HR121.out x12_1 p122 q122
                cases e122
                replace p122 := eq_true p122
                replace q122 := eq_true q122
                go_wp2
                go_roundg k1
                case measure => have := HK1.out; omega
                case rel => exact ⟨(Go.bits .or .u64 (IntKind.u64.wrap (x5_1 * 256)) (IntKind.u64.wrap (rd cm1 x12_1))), (wrap64 (x12_1 + 1)), (by first | rfl | (simp; done) | (simp [*]; done)), (by first | rfl | (simp; done) | (simp [*]; done)), H', ⟨by have := HK1.out; omega⟩, by repeat (first | exact Drawn0.refl _ | apply Drawn0.step)⟩
              · rw [if_neg c8] at H
                exact absurd H (by simp)
            · rw [if_neg c7] at H
              exact absurd H (by simp)
          · rw [if_neg c6] at H
            have c6b0 : decide (x12_1 < (cm1.length : Int)) = false := decide_eq_false c6
            clear c6
            obtain rfl := Option.some.inj H
            go_wp2
            go_ret
            exact ⟨by first | rfl | (simp; done) | (simp [*]; done), by repeat (first | exact Drawn0.refl _ | apply Drawn0.step)⟩
    · rw [if_neg c4] at H
      exact absurd H (by simp)
  · rw [if_neg c3] at H
    exact absurd H (by simp)
end Go.Proofs.YtggpejjfgphihaaDoor.H
end

section
namespace Go.Proofs.YtggpejjfgphihaaDoor.H
open Go.Proofs.YtggpejjfgphihaaDoor.Given Go.Proofs.YtggpejjfgphihaaDoor.D Go.RowKit Go.Proofs.YtggpejjfgphihaaDoorW.PrintWords Go.Proofs.YtggpejjfgphihaaDoorW.PrintLast Go.Proofs.YtggpejjfgphihaaDoorW.PrintMore
attribute [local go_sem] max2_int min2_int max_two min_two max_three min_three max_four min_four
set_option linter.unusedVariables false
set_option linter.unusedSimpArgs false
def proto_Get.f (k : Nat) (l0 : List Int) (a1 : Bool) : Option (Int × Int × Int) := if (l0.length : Int) = 0 then (some (0, 0, 2)) else (if 0 < (l0.length : Int) then (if (Go.bits .and .u8 (rd l0 0) 1) = 0 then (if (l0.length : Int) = 1 then (some (0, 0, 2)) else ((wire_Get.f k l0 2).bind fun t125 => ((proto_Right.f (IntKind.u16.wrap (t125))).bind fun t126 => (if t126 = true then (if 2 = 1 then (if a1 = true then (some (IntKind.u16.wrap (t125), 2, 0)) else (some (0, 0, 7))) else (some (IntKind.u16.wrap (t125), 2, 0))) else (some (0, 0, 7)))))) else ((proto_Right.f (IntKind.u16.wrap (rd l0 0))).bind fun t127 => (if t127 = true then (if 1 = 1 then (if a1 = true then (some (IntKind.u16.wrap (rd l0 0), 1, 0)) else (some (0, 0, 7))) else (some (IntKind.u16.wrap (rd l0 0), 1, 0))) else (some (0, 0, 7))))) else (none))
set_option maxHeartbeats 8000000 in
set_option maxRecDepth 100000 in
theorem proto_Get.calls (k : Nat) (A0 : Option Addr) (c0 : Nat) (l0 : List Int) (a1 : Bool) (r1 : Int) (r2 : Int) (r3 : Int) (w : World) (hr0 : Kd.C (Kd.int .u8) w A0 l0.length l0) (hc0 : l0.length ≤ c0) (h : proto_Get.f k l0 a1 = some (r1, r2, r3)) :
    Calls Tryd.prog 58 #[.slice A0 l0.length c0, .bool a1] w fun e w' => e = .returned (.tuple #[.int .u16 r1, .int .i64 r2, .int .i64 r3]) ∧ Drawn0 w w' := by
  have HR0 := Aside0.mk hr0
  have HC0 := Aside0.mk hc0
  clear hr0 hc0
  have H : (if (l0.length : Int) = 0 then (some (0, 0, 2)) else (if 0 < (l0.length : Int) then (if (Go.bits .and .u8 (rd l0 0) 1) = 0 then (if (l0.length : Int) = 1 then (some (0, 0, 2)) else ((wire_Get.f k l0 2).bind fun t125 => ((proto_Right.f (IntKind.u16.wrap (t125))).bind fun t126 => (if t126 = true then (if 2 = 1 then (if a1 = true then (some (IntKind.u16.wrap (t125), 2, 0)) else (some (0, 0, 7))) else (some (IntKind.u16.wrap (t125), 2, 0))) else (some (0, 0, 7)))))) else ((proto_Right.f (IntKind.u16.wrap (rd l0 0))).bind fun t127 => (if t127 = true then (if 1 = 1 then (if a1 = true then (some (IntKind.u16.wrap (rd l0 0), 1, 0)) else (some (0, 0, 7))) else (some (IntKind.u16.wrap (rd l0 0), 1, 0))) else (some (0, 0, 7))))) else (none))) = some (r1, r2, r3) := h
  clear h
  by_cases c3 : (l0.length : Int) = 0
  · rw [if_pos c3] at H
    have c3b0 : ((l0.length : Int) == 0) = true := beq_iff_eq.mpr c3
    have c3b1 : ((l0.length : Int) != 0) = false := bne_eq_false_iff_eq.mpr c3
    clear c3
    simp only [Option.some.injEq, Prod.mk.injEq] at H
    obtain ⟨rfl, rfl, rfl⟩ := H
    go_enter Tryd.func58, Tryd.ntmps58
    go_wp2
    go_ret3
    exact ⟨by first | rfl | (simp; done) | (simp [*]; done), by repeat (first | exact Drawn0.refl _ | apply Drawn0.step)⟩
  · rw [if_neg c3] at H
    have c3b0 : ((l0.length : Int) == 0) = false := beq_eq_false_iff_ne.mpr c3
    have c3b1 : ((l0.length : Int) != 0) = true := bne_iff_ne.mpr c3
    have c3b2 : ¬ (l0 = []) := fun h_ => c3 (by rw [h_]; rfl)
    by_cases c4 : 0 < (l0.length : Int)
    · rw [if_pos c4] at H
      have c4b0 : decide (0 < (l0.length : Int)) = true := decide_eq_true c4
      have c4b1 : decide (0 < l0.length) = true := decide_eq_true (by omega)
      clear c4
      by_cases c5 : (Go.bits .and .u8 (rd l0 0) 1) = 0
      · rw [if_pos c5] at H
        have c5b0 : ((Go.bits .and .u8 (rd l0 0) 1) == 0) = true := beq_iff_eq.mpr c5
        have c5b1 : ((Go.bits .and .u8 (rd l0 0) 1) != 0) = false := bne_eq_false_iff_eq.mpr c5
        clear c5
        by_cases c6 : (l0.length : Int) = 1
        · rw [if_pos c6] at H
          have c6b0 : ((l0.length : Int) == 1) = true := beq_iff_eq.mpr c6
          have c6b1 : ((l0.length : Int) != 1) = false := bne_eq_false_iff_eq.mpr c6
          clear c6
          simp only [Option.some.injEq, Prod.mk.injEq] at H
          obtain ⟨rfl, rfl, rfl⟩ := H
          have p123 : 0 ≤ (0 : Int) := (by omega)
          have q123 : 0 < (l0.length : Int) := of_decide_eq_true (by first | (with_reducible assumption) | assumption)
          obtain ⟨ad123, e123, hx123_0⟩ := Kd.at_int HR0.out 0 p123 q123
          cases e123
          have qi123 : (0 < l0.length) = True := eq_true (by omega)
          (try rw [show ((0 : Int)).toNat = 0 from rfl] at hx123_0)
          (try rw [Addr.add_zero'] at hx123_0)
          replace p123 := eq_true p123
          replace q123 := eq_true q123
          have p124 : 0 ≤ (0 : Int) := (by omega)
          have q124 : 0 < (l0.length : Int) := of_decide_eq_true (by first | (with_reducible assumption) | assumption)
          obtain ⟨ad124, e124, hx124_0⟩ := Kd.at_int HR0.out 0 p124 q124
          obtain rfl : ad123 = ad124 := (by injection e124)
          have qi124 : (0 < l0.length) = True := eq_true (by omega)
          (try rw [show ((0 : Int)).toNat = 0 from rfl] at hx124_0)
          (try rw [Addr.add_zero'] at hx124_0)
          replace p124 := eq_true p124
          replace q124 := eq_true q124
          go_enter Tryd.func58, Tryd.ntmps58
          go_wp2
          go_ret3
          exact ⟨by first | rfl | (simp; done) | (simp [*]; done), by repeat (first | exact Drawn0.refl _ | apply Drawn0.step)⟩
        · rw [if_neg c6] at H
          have c6b0 : ((l0.length : Int) == 1) = false := beq_eq_false_iff_ne.mpr c6
          have c6b1 : ((l0.length : Int) != 1) = true := bne_iff_ne.mpr c6
          replace H := Option.bind_eq_some_iff.mp H
          obtain ⟨t125, A70, H⟩ := H
          replace H : ((proto_Right.f (IntKind.u16.wrap (t125))).bind fun t126 => (if t126 = true then (if 2 = 1 then (if a1 = true then (some (IntKind.u16.wrap (t125), 2, 0)) else (some (0, 0, 7))) else (some (IntKind.u16.wrap (t125), 2, 0))) else (some (0, 0, 7)))) = some (r1, r2, r3) := H
          have A7 := Aside0.mk A70
          clear A70
          replace H := Option.bind_eq_some_iff.mp H
          obtain ⟨t126, A80, H⟩ := H
          replace H : (if t126 = true then (if 2 = 1 then (if a1 = true then (some (IntKind.u16.wrap (t125), 2, 0)) else (some (0, 0, 7))) else (some (IntKind.u16.wrap (t125), 2, 0))) else (some (0, 0, 7))) = some (r1, r2, r3) := H
          have A8 := Aside0.mk A80
          clear A80
          by_cases c9 : t126 = true
          · subst c9
            have H1 : (if 2 = 1 then (if a1 = true then (some (IntKind.u16.wrap (t125), 2, 0)) else (some (0, 0, 7))) else (some (IntKind.u16.wrap (t125), 2, 0))) = some (r1, r2, r3) := by rw [if_pos rfl] at H; exact H
            clear H
            have H := H1
            clear H1
            by_cases c10 : 2 = 1
            · exact absurd c10 (by decide)
            · rw [if_neg c10] at H
              have c10b0 : (2 == 1) = false := beq_eq_false_iff_ne.mpr c10
              have c10b1 : (2 != 1) = true := bne_iff_ne.mpr c10
              simp only [Option.some.injEq, Prod.mk.injEq] at H
              obtain ⟨rfl, rfl, rfl⟩ := H
              have p123 : 0 ≤ (0 : Int) := (by omega)
              have q123 : 0 < (l0.length : Int) := of_decide_eq_true (by first | (with_reducible assumption) | assumption)
              obtain ⟨ad123, e123, hx123_0⟩ := Kd.at_int HR0.out 0 p123 q123
              cases e123
              have qi123 : (0 < l0.length) = True := eq_true (by omega)
              (try rw [show ((0 : Int)).toNat = 0 from rfl] at hx123_0)
              (try rw [Addr.add_zero'] at hx123_0)
              replace p123 := eq_true p123
              replace q123 := eq_true q123
              have p124 : 0 ≤ (0 : Int) := (by omega)
              have q124 : 0 < (l0.length : Int) := of_decide_eq_true (by first | (with_reducible assumption) | assumption)
              obtain ⟨ad124, e124, hx124_0⟩ := Kd.at_int HR0.out 0 p124 q124
              obtain rfl : ad123 = ad124 := (by injection e124)
              have qi124 : (0 < l0.length) = True := eq_true (by omega)
              (try rw [show ((0 : Int)).toNat = 0 from rfl] at hx124_0)
              (try rw [Addr.add_zero'] at hx124_0)
              replace p124 := eq_true p124
              replace q124 := eq_true q124
              go_enter Tryd.func58, Tryd.ntmps58
              go_wp2_with (first | ((with_reducible refine gate_callee (f := 78) rfl ?_); refine goesL_ (some 25) rfl rfl Tryd.func78 (by kernel_rfl) rfl #[.slice (some ad123) l0.length c0, .int .i64 2] rfl (by (try simp only [List.map_toArray, List.map_cons, List.map_nil]); first | done | rfl | (simp only [List.length_drop, List.length_take]; rfl)) ?_; (with_reducible refine (wire_Get.calls k _ _ l0 2 t125 _ ?side1 ?side2 A7.out).mono ?_); (case side1 => repeat (first | exact HR0.out | (with_reducible refine Kd.C_alloc ?_ _) | (with_reducible refine Kd.C_drewN ?_ _) | (with_reducible refine Kd.C_drew ?_))); (case side2 => exact HC0.out); rintro e w' ⟨rfl, ⟨nd, rfl⟩⟩; refine ⟨_, rfl, ?_⟩) | ((with_reducible refine gate_callee (f := 69) rfl ?_); refine goesL_ (some 28) rfl rfl Tryd.func69 (by kernel_rfl) rfl #[.int .u16 (IntKind.u16.wrap (t125))] rfl (by (try simp only [List.map_toArray, List.map_cons, List.map_nil]); first | done | rfl | (simp only [List.length_drop, List.length_take]; rfl)) ?_; (with_reducible refine (proto_Right.calls (IntKind.u16.wrap (t125)) true _ A8.out).mono ?_); rintro e w' ⟨rfl, ⟨nd, rfl⟩⟩; refine ⟨_, rfl, ?_⟩))
              go_ret3
              exact ⟨by first | rfl | (simp; done) | (simp [*]; done), by repeat (first | exact Drawn0.refl _ | apply Drawn0.step)⟩
          · replace c9 := Bool.eq_false_iff.mpr c9
            subst c9
            have H1 : (some (0, 0, 7)) = some (r1, r2, r3) := by rw [if_neg (show ¬ (false = true) by decide)] at H; exact H
            clear H
            have H := H1
            clear H1
            simp only [Option.some.injEq, Prod.mk.injEq] at H
            obtain ⟨rfl, rfl, rfl⟩ := H
            have p123 : 0 ≤ (0 : Int) := (by omega)
            have q123 : 0 < (l0.length : Int) := of_decide_eq_true (by first | (with_reducible assumption) | assumption)
            obtain ⟨ad123, e123, hx123_0⟩ := Kd.at_int HR0.out 0 p123 q123
            cases e123
            have qi123 : (0 < l0.length) = True := eq_true (by omega)
            (try rw [show ((0 : Int)).toNat = 0 from rfl] at hx123_0)
            (try rw [Addr.add_zero'] at hx123_0)
            replace p123 := eq_true p123
            replace q123 := eq_true q123
            have p124 : 0 ≤ (0 : Int) := (by omega)
            have q124 : 0 < (l0.length : Int) := of_decide_eq_true (by first | (with_reducible assumption) | assumption)
            obtain ⟨ad124, e124, hx124_0⟩ := Kd.at_int HR0.out 0 p124 q124
            obtain rfl : ad123 = ad124 := (by injection e124)
            have qi124 : (0 < l0.length) = True := eq_true (by omega)
            (try rw [show ((0 : Int)).toNat = 0 from rfl] at hx124_0)
            (try rw [Addr.add_zero'] at hx124_0)
            replace p124 := eq_true p124
            replace q124 := eq_true q124
            go_enter Tryd.func58, Tryd.ntmps58
            go_wp2_with (first | ((with_reducible refine gate_callee (f := 78) rfl ?_); refine goesL_ (some 25) rfl rfl Tryd.func78 (by kernel_rfl) rfl #[.slice (some ad123) l0.length c0, .int .i64 2] rfl (by (try simp only [List.map_toArray, List.map_cons, List.map_nil]); first | done | rfl | (simp only [List.length_drop, List.length_take]; rfl)) ?_; (with_reducible refine (wire_Get.calls k _ _ l0 2 t125 _ ?side1 ?side2 A7.out).mono ?_); (case side1 => repeat (first | exact HR0.out | (with_reducible refine Kd.C_alloc ?_ _) | (with_reducible refine Kd.C_drewN ?_ _) | (with_reducible refine Kd.C_drew ?_))); (case side2 => exact HC0.out); rintro e w' ⟨rfl, ⟨nd, rfl⟩⟩; refine ⟨_, rfl, ?_⟩) | ((with_reducible refine gate_callee (f := 69) rfl ?_); refine goesL_ (some 28) rfl rfl Tryd.func69 (by kernel_rfl) rfl #[.int .u16 (IntKind.u16.wrap (t125))] rfl (by (try simp only [List.map_toArray, List.map_cons, List.map_nil]); first | done | rfl | (simp only [List.length_drop, List.length_take]; rfl)) ?_; (with_reducible refine (proto_Right.calls (IntKind.u16.wrap (t125)) false _ A8.out).mono ?_); rintro e w' ⟨rfl, ⟨nd, rfl⟩⟩; refine ⟨_, rfl, ?_⟩))
            go_ret3
            exact ⟨by first | rfl | (simp; done) | (simp [*]; done), by repeat (first | exact Drawn0.refl _ | apply Drawn0.step)⟩
      · rw [if_neg c5] at H
        have c5b0 : ((Go.bits .and .u8 (rd l0 0) 1) == 0) = false := beq_eq_false_iff_ne.mpr c5
        have c5b1 : ((Go.bits .and .u8 (rd l0 0) 1) != 0) = true := bne_iff_ne.mpr c5
        replace H := Option.bind_eq_some_iff.mp H
        obtain ⟨t127, A120, H⟩ := H
        replace H : (if t127 = true then (if 1 = 1 then (if a1 = true then (some (IntKind.u16.wrap (rd l0 0), 1, 0)) else (some (0, 0, 7))) else (some (IntKind.u16.wrap (rd l0 0), 1, 0))) else (some (0, 0, 7))) = some (r1, r2, r3) := H
        have A12 := Aside0.mk A120
        clear A120
        by_cases c13 : t127 = true
        · subst c13
          have H1 : (if 1 = 1 then (if a1 = true then (some (IntKind.u16.wrap (rd l0 0), 1, 0)) else (some (0, 0, 7))) else (some (IntKind.u16.wrap (rd l0 0), 1, 0))) = some (r1, r2, r3) := by rw [if_pos rfl] at H; exact H
          clear H
          have H := H1
          clear H1
          by_cases c14 : 1 = 1
          · rw [if_pos c14] at H
            have c14b0 : (1 == 1) = true := beq_iff_eq.mpr c14
            have c14b1 : (1 != 1) = false := bne_eq_false_iff_eq.mpr c14
            clear c14
            by_cases c15 : a1 = true
            · subst c15
              have H1 : (some (IntKind.u16.wrap (rd l0 0), 1, 0)) = some (r1, r2, r3) := by rw [if_pos rfl] at H; exact H
              clear H
              have H := H1
              clear H1
              simp only [Option.some.injEq, Prod.mk.injEq] at H
              obtain ⟨rfl, rfl, rfl⟩ := H
              have p123 : 0 ≤ (0 : Int) := (by omega)
              have q123 : 0 < (l0.length : Int) := of_decide_eq_true (by first | (with_reducible assumption) | assumption)
              obtain ⟨ad123, e123, hx123_0⟩ := Kd.at_int HR0.out 0 p123 q123
              cases e123
              have qi123 : (0 < l0.length) = True := eq_true (by omega)
              (try rw [show ((0 : Int)).toNat = 0 from rfl] at hx123_0)
              (try rw [Addr.add_zero'] at hx123_0)
              replace p123 := eq_true p123
              replace q123 := eq_true q123
              have p124 : 0 ≤ (0 : Int) := (by omega)
              have q124 : 0 < (l0.length : Int) := of_decide_eq_true (by first | (with_reducible assumption) | assumption)
              obtain ⟨ad124, e124, hx124_0⟩ := Kd.at_int HR0.out 0 p124 q124
              obtain rfl : ad123 = ad124 := (by injection e124)
              have qi124 : (0 < l0.length) = True := eq_true (by omega)
              (try rw [show ((0 : Int)).toNat = 0 from rfl] at hx124_0)
              (try rw [Addr.add_zero'] at hx124_0)
              replace p124 := eq_true p124
              replace q124 := eq_true q124
              go_enter Tryd.func58, Tryd.ntmps58
              go_wp2_with (first | ((with_reducible refine gate_callee (f := 69) rfl ?_); refine goesL_ (some 28) rfl rfl Tryd.func69 (by kernel_rfl) rfl #[.int .u16 (IntKind.u16.wrap (rd l0 0))] rfl (by (try simp only [List.map_toArray, List.map_cons, List.map_nil]); first | done | rfl | (simp only [List.length_drop, List.length_take]; rfl)) ?_; (with_reducible refine (proto_Right.calls (IntKind.u16.wrap (rd l0 0)) true _ A12.out).mono ?_); rintro e w' ⟨rfl, ⟨nd, rfl⟩⟩; refine ⟨_, rfl, ?_⟩))
              go_ret3
              exact ⟨by first | rfl | (simp; done) | (simp [*]; done), by repeat (first | exact Drawn0.refl _ | apply Drawn0.step)⟩
            · replace c15 := Bool.eq_false_iff.mpr c15
              subst c15
              have H1 : (some (0, 0, 7)) = some (r1, r2, r3) := by rw [if_neg (show ¬ (false = true) by decide)] at H; exact H
              clear H
              have H := H1
              clear H1
              simp only [Option.some.injEq, Prod.mk.injEq] at H
              obtain ⟨rfl, rfl, rfl⟩ := H
              have p123 : 0 ≤ (0 : Int) := (by omega)
              have q123 : 0 < (l0.length : Int) := of_decide_eq_true (by first | (with_reducible assumption) | assumption)
              obtain ⟨ad123, e123, hx123_0⟩ := Kd.at_int HR0.out 0 p123 q123
              cases e123
              have qi123 : (0 < l0.length) = True := eq_true (by omega)
              (try rw [show ((0 : Int)).toNat = 0 from rfl] at hx123_0)
              (try rw [Addr.add_zero'] at hx123_0)
              replace p123 := eq_true p123
              replace q123 := eq_true q123
              have p124 : 0 ≤ (0 : Int) := (by omega)
              have q124 : 0 < (l0.length : Int) := of_decide_eq_true (by first | (with_reducible assumption) | assumption)
              obtain ⟨ad124, e124, hx124_0⟩ := Kd.at_int HR0.out 0 p124 q124
              obtain rfl : ad123 = ad124 := (by injection e124)
              have qi124 : (0 < l0.length) = True := eq_true (by omega)
              (try rw [show ((0 : Int)).toNat = 0 from rfl] at hx124_0)
              (try rw [Addr.add_zero'] at hx124_0)
              replace p124 := eq_true p124
              replace q124 := eq_true q124
              go_enter Tryd.func58, Tryd.ntmps58
              go_wp2_with (first | ((with_reducible refine gate_callee (f := 69) rfl ?_); refine goesL_ (some 28) rfl rfl Tryd.func69 (by kernel_rfl) rfl #[.int .u16 (IntKind.u16.wrap (rd l0 0))] rfl (by (try simp only [List.map_toArray, List.map_cons, List.map_nil]); first | done | rfl | (simp only [List.length_drop, List.length_take]; rfl)) ?_; (with_reducible refine (proto_Right.calls (IntKind.u16.wrap (rd l0 0)) true _ A12.out).mono ?_); rintro e w' ⟨rfl, ⟨nd, rfl⟩⟩; refine ⟨_, rfl, ?_⟩))
              go_ret3
              exact ⟨by first | rfl | (simp; done) | (simp [*]; done), by repeat (first | exact Drawn0.refl _ | apply Drawn0.step)⟩
          · exact absurd rfl c14
        · replace c13 := Bool.eq_false_iff.mpr c13
          subst c13
          have H1 : (some (0, 0, 7)) = some (r1, r2, r3) := by rw [if_neg (show ¬ (false = true) by decide)] at H; exact H
          clear H
          have H := H1
          clear H1
          simp only [Option.some.injEq, Prod.mk.injEq] at H
          obtain ⟨rfl, rfl, rfl⟩ := H
          have p123 : 0 ≤ (0 : Int) := (by omega)
          have q123 : 0 < (l0.length : Int) := of_decide_eq_true (by first | (with_reducible assumption) | assumption)
          obtain ⟨ad123, e123, hx123_0⟩ := Kd.at_int HR0.out 0 p123 q123
          cases e123
          have qi123 : (0 < l0.length) = True := eq_true (by omega)
          (try rw [show ((0 : Int)).toNat = 0 from rfl] at hx123_0)
          (try rw [Addr.add_zero'] at hx123_0)
          replace p123 := eq_true p123
          replace q123 := eq_true q123
          have p124 : 0 ≤ (0 : Int) := (by omega)
          have q124 : 0 < (l0.length : Int) := of_decide_eq_true (by first | (with_reducible assumption) | assumption)
          obtain ⟨ad124, e124, hx124_0⟩ := Kd.at_int HR0.out 0 p124 q124
          obtain rfl : ad123 = ad124 := (by injection e124)
          have qi124 : (0 < l0.length) = True := eq_true (by omega)
          (try rw [show ((0 : Int)).toNat = 0 from rfl] at hx124_0)
          (try rw [Addr.add_zero'] at hx124_0)
          replace p124 := eq_true p124
          replace q124 := eq_true q124
          go_enter Tryd.func58, Tryd.ntmps58
          go_wp2_with (first | ((with_reducible refine gate_callee (f := 69) rfl ?_); refine goesL_ (some 28) rfl rfl Tryd.func69 (by kernel_rfl) rfl #[.int .u16 (IntKind.u16.wrap (rd l0 0))] rfl (by (try simp only [List.map_toArray, List.map_cons, List.map_nil]); first | done | rfl | (simp only [List.length_drop, List.length_take]; rfl)) ?_; (with_reducible refine (proto_Right.calls (IntKind.u16.wrap (rd l0 0)) false _ A12.out).mono ?_); rintro e w' ⟨rfl, ⟨nd, rfl⟩⟩; refine ⟨_, rfl, ?_⟩))
          go_ret3
          exact ⟨by first | rfl | (simp; done) | (simp [*]; done), by repeat (first | exact Drawn0.refl _ | apply Drawn0.step)⟩
    · rw [if_neg c4] at H
      exact absurd H (by simp)
end Go.Proofs.YtggpejjfgphihaaDoor.H
end

section
namespace Go.Proofs.YtggpejjfgphihaaDoor.Given
open Go.RowKit Go.Proofs.YtggpejjfgphihaaDoorW.PrintWords Go.Proofs.YtggpejjfgphihaaDoorW.PrintLast Go.Proofs.YtggpejjfgphihaaDoorW.PrintMore
open Go.Proofs.YtggpejjfgphihaaDoor.H
set_option linter.unusedVariables false
set_option linter.unusedSimpArgs false
def head_Get.f (k : Nat) (a0_0 a0_1 a0_2 a0_3 : Bool) (a0_4 a0_5 a0_6 : Int) (l1 : List Int) : Option (Int × Int × Int) :=
  (bytes_HasPrefix.f l1 [255, 3]).bind fun has => if has = false ∧ a0_2 = false then some (0, 0, 7) else
    (proto_Get.f k (cutOf has l1 [255, 3]) a0_3).bind fun t => if t.2.2 = 0 then some (t.1, wrap64 (wrap64 ((l1.length : Int) - ((cutOf has l1 [255, 3]).length : Int)) + t.2.1), 0) else some (0, 0, 7)
theorem full_reads (w : World) : Kd.C (Kd.int .u8) (w.alloc (.cells #[.int .u8 255, .int .u8 3] 82)) (some ⟨w.heap.size, 0, none⟩) ([255, 3] : List Int).length [255, 3] :=
  Kd.C_of_reads (d := (0 : Int)) (h1 := fun _ => rfl) ⟨rfl, by decide, fun _ => ⟨_, rfl, fun j hj => by
      rw [add_plain, cell_of_row _ _ j _ 82 (0, 0) (heap_alloc_new w _)]
      match j, hj with
      | 0, _ => rfl
      | 1, _ => rfl
      | j + 2, hj => exact absurd hj (by simp)⟩⟩
theorem hi82 : (Tryd.prog.info? 82).map (·.size) = some 2 := by kernel_rfl
theorem full_len : Tryd.prog.arrayLen 82 = 2 := by kernel_rfl
theorem full_elem : Tryd.prog.elem 82 = 5 := by kernel_rfl
theorem full_cut (a : Addr) (W : World) : (Instr.sliceAt 82 (.pointer (some a)) none none none).run Tryd.prog W = .ok (.slice (some a) 2 2) W := by
  obtain ⟨i0, hi0, _, hsz, _⟩ := info_parts info5
  have hu : Tryd.prog.underlying 82 = some (.array (Tryd.prog.arrayLen 82) (Tryd.prog.elem 82)) := by kernel_rfl
  rw [run_sliceAt_array_all W 82 a hu, full_elem, full_len]
  simp [sizeOf, typeInfo, hi0, hsz, slicedAt, sliced, Result.andThen, Addr.add]
set_option maxHeartbeats 4000000 in
set_option maxRecDepth 100000 in
theorem head_Get.calls (k : Nat) (a0_0 a0_1 a0_2 a0_3 : Bool) (a0_4 a0_5 a0_6 : Int) (A1 : Option Addr) (c1 : Nat) (l1 : List Int) (r1 r2 r3 : Int) (w : World) (hr1 : Kd.C (Kd.int .u8) w A1 l1.length l1) (hc1 : l1.length ≤ c1) (hgH : GH w)
    (h : head_Get.f k a0_0 a0_1 a0_2 a0_3 a0_4 a0_5 a0_6 l1 = some (r1, r2, r3)) :
    Calls Tryd.prog 29 #[.agg #[.bool a0_0, .bool a0_1, .bool a0_2, .bool a0_3, .int .u32 a0_4, .int .u32 a0_5, .int .i64 a0_6], .slice A1 l1.length c1] w fun e w' => e = .returned (.tuple #[.int .u16 r1, .int .i64 r2, .int .i64 r3]) ∧ Below w.heap.size w w' := by
  obtain ⟨g0, g1⟩ := hgH
  have lt0 : 0 < w.heap.size := World.block_lt_of_cell? w _ g0
  have HR := Aside0.mk hr1
  have HC := Aside0.mk hc1
  have H := Aside0.mk h
  clear hr1 hc1 h
  go_enter Tryd.func29, Tryd.ntmps29
  go_upto_region 1 with (fail)
  obtain ⟨w1, hw1⟩ : ∃ W, W = w.alloc (.cells #[.bool a0_0, .bool a0_1, .bool a0_2, .bool a0_3, .int .u32 a0_4, .int .u32 a0_5, .int .i64 a0_6] 26) := ⟨_, rfl⟩
  have hb1 : Below w.heap.size w w1 := by rw [hw1]; exact below_alloc (Below.refl _ _) _
  have hs1 : w1.heap.size = w.heap.size + 1 := by rw [hw1]; simp
  have q0 : w1.cell? ⟨0, 0, none⟩ = some (.int .u8 255) := pw_cell_below hb1 g0
  have q1 : w1.cell? ⟨0, 1, none⟩ = some (.int .u8 3) := pw_cell_below hb1 g1
  have ca2 : w1.cell? ⟨w.heap.size, 2, none⟩ = some (.bool a0_2) := by rw [hw1]; exact cell_of_row _ _ 2 _ 26 (0, 0) (heap_alloc_new w _)
  have ca3 : w1.cell? ⟨w.heap.size, 3, none⟩ = some (.bool a0_3) := by rw [hw1]; exact cell_of_row _ _ 3 _ 26 (0, 0) (heap_alloc_new w _)
  rw [← hw1]
  have HR1 := Aside0.mk (Kd.C_below HR.out hb1)
  have HB1 := Aside0.mk hb1
  clear HR hb1 hw1 g0 g1 lt0
  have hg := heap_alloc_new w1 (.cells #[.int .u8 0, .int .u8 0] 82)
  have hrow := made_row w1 #[.int .u8 0, .int .u8 0] #[.int .u8 255, .int .u8 3] 82
  have hsz := hi82
  go_upto_region 2 with (first
        | (with_reducible refine wpList_store_row rfl 82 (.tmp 7) (.tmp 13) rfl w1.heap.size #[.int .u8 255, .int .u8 3] rfl rfl 82 #[.int .u8 0, .int .u8 0] hg hsz rfl (by decide) ?_; rw [hrow]))
  clear hg hrow hsz q0 q1
  obtain ⟨w2, hw2⟩ : ∃ W, W = w1.alloc (.cells #[.int .u8 255, .int .u8 3] 82) := ⟨_, rfl⟩
  have hf : Kd.C (Kd.int .u8) w2 (some ⟨w.heap.size + 1, 0, none⟩) ([255, 3] : List Int).length [255, 3] := by rw [hw2, ← hs1]; exact full_reads w1
  have hb2 : Below w1.heap.size w1 w2 := by rw [hw2]; exact below_alloc (Below.refl _ _) _
  have d2 : w2.cell? ⟨w.heap.size, 2, none⟩ = some (.bool a0_2) := pw_cell_below hb2 ca2
  have d3 : w2.cell? ⟨w.heap.size, 3, none⟩ = some (.bool a0_3) := pw_cell_below hb2 ca3
  rw [← hw2]
  have HF := Aside0.mk hf
  have HR2 := Aside0.mk (Kd.C_below HR1.out hb2)
  have HB2 := Aside0.mk (below_then HB1.out HB1.out.size hb2)
  clear HR1 HB1 hb2 hw2 hf ca2 ca3
  have hcut := fun W => full_cut ⟨w.heap.size + 1, 0, none⟩ W
  unfold head_Get.f at H
  obtain ⟨has, hh, H0⟩ := Option.bind_eq_some_iff.1 H.out
  have HH := Aside0.mk hh
  have H1 := Aside0.mk H0
  clear H hh H0
  go_wp2_with fail
  refine (cutPrefix_calls A1 c1 l1 _ 2 [255, 3] has _ HR2.out HC.out HF.out (by decide) HH.out).mono ?_
  rintro e w3 ⟨A', c', rfl, ⟨nd, rfl⟩, hrm, hcm⟩
  obtain ⟨m, hm⟩ : ∃ m, m = cutOf has l1 [255, 3] := ⟨_, rfl⟩
  rw [← hm] at hrm hcm H1 ⊢
  have HRM := Aside0.mk hrm
  have HCM := Aside0.mk hcm
  clear hrm hcm hm
  cases has with
  | false =>
    cases a0_2 with
    | false =>
      have H2 := H1.out
      rw [if_pos ⟨rfl, rfl⟩] at H2
      obtain ⟨rfl, rfl, rfl⟩ : 0 = r1 ∧ 0 = r2 ∧ 7 = r3 := by simpa using H2
      clear H2
      go_wp2_with fail
      go_ret3
      exact ⟨rfl, pw_below_drewN HB2.out _⟩
    | true =>
      have H2 := H1.out
      rw [if_neg (fun h => by cases h.2)] at H2
      obtain ⟨⟨t1, t2, t3⟩, hp, H3⟩ := Option.bind_eq_some_iff.1 H2
      have HP := Aside0.mk hp
      clear H2 hp H1
      by_cases hz : t3 = 0
      · subst hz
        rw [if_pos rfl] at H3
        obtain ⟨rfl, rfl, rfl⟩ : t1 = r1 ∧ wrap64 (wrap64 ((l1.length : Int) - (m.length : Int)) + t2) = r2 ∧ 0 = r3 := by simpa using H3
        clear H3
        go_wp2_with fail
        refine (proto_Get.calls k _ _ m a0_3 t1 t2 0 _ (Kd.C_drewN HRM.out _) HCM.out HP.out).mono ?_
        rintro e w4 ⟨rfl, ⟨nd2, rfl⟩⟩
        go_wp2_with fail
        go_ret3
        exact ⟨by rfl, pw_below_drewN HB2.out _⟩
      · rw [if_neg hz] at H3
        obtain ⟨rfl, rfl, rfl⟩ : 0 = r1 ∧ 0 = r2 ∧ 7 = r3 := by simpa using H3
        clear H3
        have hz0 : (t3 == 0) = false := beq_eq_false_iff_ne.2 hz
        have hz1 : (t3 != 0) = true := bne_iff_ne.2 hz
        go_wp2_with fail
        refine (proto_Get.calls k _ _ m a0_3 t1 t2 t3 _ (Kd.C_drewN HRM.out _) HCM.out HP.out).mono ?_
        rintro e w4 ⟨rfl, ⟨nd2, rfl⟩⟩
        go_wp2_with fail
        go_ret3
        exact ⟨rfl, pw_below_drewN HB2.out _⟩
  | true =>
      have H2 := H1.out
      rw [if_neg (fun h => by cases h.1)] at H2
      obtain ⟨⟨t1, t2, t3⟩, hp, H3⟩ := Option.bind_eq_some_iff.1 H2
      have HP := Aside0.mk hp
      clear H2 hp H1
      by_cases hz : t3 = 0
      · subst hz
        rw [if_pos rfl] at H3
        obtain ⟨rfl, rfl, rfl⟩ : t1 = r1 ∧ wrap64 (wrap64 ((l1.length : Int) - (m.length : Int)) + t2) = r2 ∧ 0 = r3 := by simpa using H3
        clear H3
        go_wp2_with fail
        refine (proto_Get.calls k _ _ m a0_3 t1 t2 0 _ (Kd.C_drewN HRM.out _) HCM.out HP.out).mono ?_
        rintro e w4 ⟨rfl, ⟨nd2, rfl⟩⟩
        go_wp2_with fail
        go_ret3
        exact ⟨by rfl, pw_below_drewN HB2.out _⟩
      · rw [if_neg hz] at H3
        obtain ⟨rfl, rfl, rfl⟩ : 0 = r1 ∧ 0 = r2 ∧ 7 = r3 := by simpa using H3
        clear H3
        have hz0 : (t3 == 0) = false := beq_eq_false_iff_ne.2 hz
        have hz1 : (t3 != 0) = true := bne_iff_ne.2 hz
        go_wp2_with fail
        refine (proto_Get.calls k _ _ m a0_3 t1 t2 t3 _ (Kd.C_drewN HRM.out _) HCM.out HP.out).mono ?_
        rintro e w4 ⟨rfl, ⟨nd2, rfl⟩⟩
        go_wp2_with fail
        go_ret3
        exact ⟨rfl, pw_below_drewN HB2.out _⟩
end Go.Proofs.YtggpejjfgphihaaDoor.Given
end

section
namespace Go.Proofs.YtggpejjfgphihaaDoor.Given
open Go.RowKit Go.Proofs.YtggpejjfgphihaaDoorW.PrintWords Go.Proofs.YtggpejjfgphihaaDoorW.PrintLast Go.Proofs.YtggpejjfgphihaaDoorW.PrintMore
open Go.Proofs.YtggpejjfgphihaaDoor.H
set_option linter.unusedVariables false
set_option linter.unusedSimpArgs false
def head_Put.f (k : Nat) (a0_0 a0_1 a0_2 a0_3 : Bool) (a0_4 a0_5 a0_6 : Int) (a1 : Int) : Option (List Int) :=
  (proto_Put.f k a1 (a0_3 && !(a1 == 49185))).bind fun t => if (a0_2 && !(a1 == 49185)) = true then some t else if 0 < t.length ∧ t.length < 1000 then some ([255, 3] ++ t) else none
theorem full_cut2 (a : Addr) (W : World) : (Instr.sliceAt 82 (.pointer (some a)) none (some (.int .i64 2)) (some (.int .i64 2))).run Tryd.prog W = .ok (.slice (some a) 2 2) W := by
  obtain ⟨i0, hi0, _, hsz, _⟩ := info_parts info5
  have hu : Tryd.prog.underlying 82 = some (.array (Tryd.prog.arrayLen 82) (Tryd.prog.elem 82)) := by kernel_rfl
  rw [run_sliceAt_array_hm W 82 a hu .i64 .i64 2 2 (by decide) (by decide) (by rw [full_len]; decide), full_elem]
  simp [sizeOf, typeInfo, hi0, hsz, slicedAt, sliced, Result.andThen, Addr.add]
theorem full_at (w : World) : ∀ j u, [Value.int .u8 255, Value.int .u8 3][j]? = some u → (w.alloc (.cells #[.int .u8 255, .int .u8 3] 82)).cell? ((⟨w.heap.size, 0, none⟩ : Addr).add j) = some u := by
  intro j u h
  rw [add_plain, cell_of_row _ _ j _ 82 (0, 0) (heap_alloc_new w _)]
  match j, h with
  | 0, h => exact h
  | 1, h => exact h
  | j + 2, h => exact absurd h (by simp)
theorem news_at {w : World} {A : Option Addr} {t : List Int} (h : Kd.C (Kd.int .u8) w A t.length t) (hp : 0 < t.length) : ∃ ad, A = some ad ∧ ∀ j u, (encs (Value.int .u8) t)[j]? = some u → w.cell? (ad.add j) = some u := by
  obtain ⟨_, _, hc⟩ := Kd.reads_of_C (d := (0 : Int)) h
  obtain ⟨ad, ha, hj⟩ := hc hp
  refine ⟨ad, ha, fun j u hu => ?_⟩
  have hlt : j < t.length := by
    have := (List.getElem?_eq_some_iff.1 hu).1
    simpa [encs] using this
  rw [hj j hlt]
  rw [← hu]
  simp [encs, List.getD_eq_getElem?_getD, hlt]
set_option maxHeartbeats 8000000 in
set_option maxRecDepth 100000 in
theorem head_Put.calls (k : Nat) (a0_0 a0_1 a0_2 a0_3 : Bool) (a0_4 a0_5 a0_6 : Int) (a1 : Int) (r : List Int) (w : World) (hgH : GH w)
    (h : head_Put.f k a0_0 a0_1 a0_2 a0_3 a0_4 a0_5 a0_6 a1 = some r) :
    Calls Tryd.prog 32 #[.agg #[.bool a0_0, .bool a0_1, .bool a0_2, .bool a0_3, .int .u32 a0_4, .int .u32 a0_5, .int .i64 a0_6], .int .u16 a1] w fun e w' => ∃ v0_ : Value, e = .returned (v0_) ∧ Kd.Q (Kd.int .u8) 5 w' w.heap.size (fun _ => True) v0_ r ∧ Below w.heap.size w w' := by
  have HG := Aside0.mk hgH
  clear hgH
  obtain ⟨L, hL⟩ : ∃ L : Bool, L = (a1 == 49185) := ⟨_, rfl⟩
  obtain ⟨sh, hsh⟩ : ∃ sh : Bool, sh = (a0_3 && !L) := ⟨_, rfl⟩
  obtain ⟨bare, hbare⟩ : ∃ bare : Bool, bare = (a0_2 && !L) := ⟨_, rfl⟩
  unfold head_Put.f at h
  rw [← hL, ← hsh, ← hbare] at h
  obtain ⟨t, hp, h0⟩ := Option.bind_eq_some_iff.1 h
  have HP := Aside0.mk hp
  have H := Aside0.mk h0
  clear h hp h0
  go_enter Tryd.func32, Tryd.ntmps32
  go_upto_region 1 with (fail)
  obtain ⟨w1, hw1⟩ : ∃ W, W = w.alloc (.cells #[.bool a0_0, .bool a0_1, .bool a0_2, .bool a0_3, .int .u32 a0_4, .int .u32 a0_5, .int .i64 a0_6] 26) := ⟨_, rfl⟩
  have hb1 : Below w.heap.size w w1 := by rw [hw1]; exact below_alloc (Below.refl _ _) _
  have hs1 : w1.heap.size = w.heap.size + 1 := by rw [hw1]; simp
  have ca2 : w1.cell? ⟨w.heap.size, 2, none⟩ = some (.bool a0_2) := by rw [hw1]; exact cell_of_row _ _ 2 _ 26 (0, 0) (heap_alloc_new w _)
  have ca3 : w1.cell? ⟨w.heap.size, 3, none⟩ = some (.bool a0_3) := by rw [hw1]; exact cell_of_row _ _ 3 _ 26 (0, 0) (heap_alloc_new w _)
  rw [← hw1]
  have HB1 := Aside0.mk hb1
  have HS1 := Aside0.mk hs1
  clear hb1 hw1 hs1
  have hL' : (a1 == 49185) = L := hL.symm
  clear hL
  cases L <;> cases a0_3 <;> cases a0_2
  all_goals
    simp only [Bool.not_true, Bool.not_false, Bool.and_true, Bool.and_false, Bool.true_and, Bool.false_and] at hsh hbare
    subst hsh hbare
  all_goals
    go_wp2_with fail
    refine (proto_Put.calls k a1 _ t _ HP.out).mono ?_
    rintro e w3 ⟨v, rfl, hq, hb3⟩
    have d2 := pw_cell_below hb3 ca2
    have HQ := Aside0.mk hq
    have HB3 := Aside0.mk (below_then HB1.out HB1.out.size hb3)
    have HS3 := Aside0.mk hb3.size
    clear hq hb3
    have H2 := H.out
    simp only [Bool.false_eq_true, if_true, if_false] at H2
  all_goals first
    | (obtain rfl := Option.some.inj H2
       go_wp2_with fail
       go_ret
       exact ⟨_, rfl, Kd.Q_lower HQ.out (by have := HS1.out; omega), HB3.out⟩)
    | skip
  all_goals
    split at H2
    case isFalse => cases H2
    rename_i hlen
    obtain rfl := Option.some.inj H2
    obtain ⟨hl0, hl1⟩ := hlen
    obtain ⟨g, o, cap, rfl, hg1, hg2, _⟩ := Kd.Q_form HQ.out hl0
    obtain ⟨hn1, hn2, hn3⟩ := Kd.Q_reads' HQ.out
    have HN3 := Aside0.mk hn3
    have HL0 := Aside0.mk hl0
    have HL1 := Aside0.mk hl1
    obtain ⟨q0, q1⟩ := GH_below HG.out HB3.out
    have hg := heap_alloc_new w3 (.cells #[.int .u8 0, .int .u8 0] 82)
    have hrow := made_row w3 #[.int .u8 0, .int .u8 0] #[.int .u8 255, .int .u8 3] 82
    have hsz := hi82
    clear hl0 hl1 hn1 hn2 hn3 hg1 hg2 H2
    go_upto_region 6 with (first
          | (with_reducible refine wpList_store_row rfl 82 (.tmp 7) (.tmp 25) rfl w3.heap.size #[.int .u8 255, .int .u8 3] rfl rfl 82 #[.int .u8 0, .int .u8 0] hg hsz rfl (by decide) ?_; rw [hrow]))
    clear hg hrow hsz q0 q1
    have hcut := fun W => full_cut2 ⟨w3.heap.size, 0, none⟩ W
    have HF := Aside0.mk (full_at w3)
    obtain ⟨ad, had, hnews⟩ := news_at (Kd.C_below HN3.out (below_alloc (Below.refl _ _) (.cells #[.int .u8 255, .int .u8 3] 82))) HL0.out
    obtain rfl := Option.some.inj had
    have HB4 := Aside0.mk (below_alloc HB3.out (.cells #[.int .u8 255, .int .u8 3] 82))
    have HNW := Aside0.mk hnews
    have HS4 := Aside0.mk (show w.heap.size ≤ (w3.alloc (.cells #[.int .u8 255, .int .u8 3] 82)).heap.size from HB4.out.size)
    generalize w3.alloc (.cells #[.int .u8 255, .int .u8 3] 82) = w4 at HF HNW HB4 HS4 ⊢
    clear hnews had
    obtain ⟨i0, hi0, hz0, hsz0, hby0⟩ := info_parts info5
    go_wp2_with (first
          | ((with_reducible refine gate_builtin (b := .append) (xs := #[.tmp 26, .tmp 27]) rfl ?_)
             (try (refine gate_guard (by rfl) ?_; dsimp only))
             at_builtin
             refine wpList_append_grows _ rfl (.tmp 26) (.tmp 27) 35 rfl 5 i0 (.int .u8 0) 1 1 Tryd.underlying35 hi0 hz0 hsz0 hby0 rfl (by decide) (some ⟨w3.heap.size, 0, none⟩) 2 2 [.int .u8 255, .int .u8 3] rfl (fun h => by cases h) rfl (fun b hb => by cases hb; exact HF.out) ⟨g, o, none⟩ t.length cap (encs (Value.int .u8) t) rfl (by rw [encs_length, Nat.mul_one]) HNW.out (fun u hu => by obtain ⟨x, _, rfl⟩ := List.mem_map.1 hu; rfl) (by have := HL0.out; omega) (by have := HL1.out; simp only [maxLen]; omega) (by have := HL1.out; omega) ?_
             intro v' w5 hown hgr
             have HO := Aside0.mk hown
             have HGR := Aside0.mk hgr
             clear hown hgr))
    go_ret
    refine ⟨_, rfl, Kd.Q_lower (Kd.Q_of_R (Kd.R_of_own (enc := Value.int .u8) (xs := [255, 3] ++ t) (by have h_ := HO.out; rw [show ([255, 3] ++ t : List Int).length = 2 + t.length by rw [List.length_append]; rfl]; exact h_) (fun _ _ => trivial))) HS4.out, HB4.out.grown HGR.out HS4.out (fun k hk => by cases hk)⟩
end Go.Proofs.YtggpejjfgphihaaDoor.Given
end

section
namespace Go.Proofs.YtggpejjfgphihaaDoor.H
open Go.Proofs.YtggpejjfgphihaaDoor.Given Go.Proofs.YtggpejjfgphihaaDoor.D Go.RowKit Go.Proofs.YtggpejjfgphihaaDoorW.PrintWords Go.Proofs.YtggpejjfgphihaaDoorW.PrintLast Go.Proofs.YtggpejjfgphihaaDoorW.PrintMore
attribute [local go_sem] max2_int min2_int max_two min_two max_three min_three max_four min_four
set_option linter.unusedVariables false
set_option linter.unusedSimpArgs false
def marlineref09_Get.f (l0 : List Int) (a1 : Bool) : Option (Int × Int × Int) := if (l0.length : Int) = 0 then (some (0, 0, 2)) else (if 0 < (l0.length : Int) then (if (Int.tmod (rd l0 0) 2) = 1 then (if a1 = true then (if (rd l0 0) = 255 then (some (0, 0, 7)) else (some (wrap64 (rd l0 0), 1, 0))) else (some (0, 0, 7))) else (if (l0.length : Int) < 2 then (some (0, 0, 2)) else (if 1 < (l0.length : Int) then (if (Int.tmod (rd l0 1) 2) = 0 then (some (0, 0, 7)) else (if (rd l0 0) = 0 then (if (rd l0 1) = 255 then (some (0, 0, 7)) else (some (wrap64 ((wrap64 (256 * (wrap64 (rd l0 0)))) + (wrap64 (rd l0 1))), 2, 0))) else (some (wrap64 ((wrap64 (256 * (wrap64 (rd l0 0)))) + (wrap64 (rd l0 1))), 2, 0)))) else (none)))) else (none))
set_option maxHeartbeats 8000000 in
set_option maxRecDepth 100000 in
theorem marlineref09_Get.calls (A0 : Option Addr) (c0 : Nat) (l0 : List Int) (a1 : Bool) (r1 : Int) (r2 : Int) (r3 : Int) (w : World) (hr0 : Kd.C (Kd.int .u8) w A0 l0.length l0) (hc0 : l0.length ≤ c0) (h : marlineref09_Get.f l0 a1 = some (r1, r2, r3)) :
    Calls Tryd.prog 59 #[.slice A0 l0.length c0, .bool a1] w fun e w' => e = .returned (.tuple #[.int .i64 r1, .int .i64 r2, .int .i64 r3]) ∧ Drawn0 w w' := by
  have HR0 := Aside0.mk hr0
  have HC0 := Aside0.mk hc0
  clear hr0 hc0
  have H : (if (l0.length : Int) = 0 then (some (0, 0, 2)) else (if 0 < (l0.length : Int) then (if (Int.tmod (rd l0 0) 2) = 1 then (if a1 = true then (if (rd l0 0) = 255 then (some (0, 0, 7)) else (some (wrap64 (rd l0 0), 1, 0))) else (some (0, 0, 7))) else (if (l0.length : Int) < 2 then (some (0, 0, 2)) else (if 1 < (l0.length : Int) then (if (Int.tmod (rd l0 1) 2) = 0 then (some (0, 0, 7)) else (if (rd l0 0) = 0 then (if (rd l0 1) = 255 then (some (0, 0, 7)) else (some (wrap64 ((wrap64 (256 * (wrap64 (rd l0 0)))) + (wrap64 (rd l0 1))), 2, 0))) else (some (wrap64 ((wrap64 (256 * (wrap64 (rd l0 0)))) + (wrap64 (rd l0 1))), 2, 0)))) else (none)))) else (none))) = some (r1, r2, r3) := h
  clear h
  by_cases c3 : (l0.length : Int) = 0
  · rw [if_pos c3] at H
    have c3b0 : ((l0.length : Int) == 0) = true := beq_iff_eq.mpr c3
    have c3b1 : ((l0.length : Int) != 0) = false := bne_eq_false_iff_eq.mpr c3
    clear c3
    simp only [Option.some.injEq, Prod.mk.injEq] at H
    obtain ⟨rfl, rfl, rfl⟩ := H
    go_enter Tryd.func59, Tryd.ntmps59
    go_wp2
    repeat (go_quiet (fail); try go_wp2)
    go_ret3
    exact ⟨by first | rfl | (simp; done) | (simp [*]; done), by repeat (first | exact Drawn0.refl _ | apply Drawn0.step)⟩
  · rw [if_neg c3] at H
    have c3b0 : ((l0.length : Int) == 0) = false := beq_eq_false_iff_ne.mpr c3
    have c3b1 : ((l0.length : Int) != 0) = true := bne_iff_ne.mpr c3
    have c3b2 : ¬ (l0 = []) := fun h_ => c3 (by rw [h_]; rfl)
    by_cases c4 : 0 < (l0.length : Int)
    · rw [if_pos c4] at H
      have c4b0 : decide (0 < (l0.length : Int)) = true := decide_eq_true c4
      have c4b1 : decide (0 < l0.length) = true := decide_eq_true (by omega)
      clear c4
      by_cases c5 : (Int.tmod (rd l0 0) 2) = 1
      · rw [if_pos c5] at H
        have c5b0 : ((Int.tmod (rd l0 0) 2) == 1) = true := beq_iff_eq.mpr c5
        have c5b1 : ((Int.tmod (rd l0 0) 2) != 1) = false := bne_eq_false_iff_eq.mpr c5
        clear c5
        by_cases c6 : a1 = true
        · subst c6
          have H1 : (if (rd l0 0) = 255 then (some (0, 0, 7)) else (some (wrap64 (rd l0 0), 1, 0))) = some (r1, r2, r3) := by rw [if_pos rfl] at H; exact H
          clear H
          have H := H1
          clear H1
          by_cases c7 : (rd l0 0) = 255
          · rw [if_pos c7] at H
            have c7b0 : ((rd l0 0) == 255) = true := beq_iff_eq.mpr c7
            have c7b1 : ((rd l0 0) != 255) = false := bne_eq_false_iff_eq.mpr c7
            clear c7
            simp only [Option.some.injEq, Prod.mk.injEq] at H
            obtain ⟨rfl, rfl, rfl⟩ := H
            have p129 : 0 ≤ (0 : Int) := (by omega)
            have q129 : 0 < (l0.length : Int) := of_decide_eq_true (by first | (with_reducible assumption) | assumption)
            obtain ⟨ad129, e129, hx129_0⟩ := Kd.at_int HR0.out 0 p129 q129
            cases e129
            have qi129 : (0 < l0.length) = True := eq_true (by omega)
            (try rw [show ((0 : Int)).toNat = 0 from rfl] at hx129_0)
            (try rw [Addr.add_zero'] at hx129_0)
            replace p129 := eq_true p129
            replace q129 := eq_true q129
            have p130 : 0 ≤ (0 : Int) := (by omega)
            have q130 : 0 < (l0.length : Int) := of_decide_eq_true (by first | (with_reducible assumption) | assumption)
            obtain ⟨ad130, e130, hx130_0⟩ := Kd.at_int HR0.out 0 p130 q130
            obtain rfl : ad129 = ad130 := (by injection e130)
            have qi130 : (0 < l0.length) = True := eq_true (by omega)
            (try rw [show ((0 : Int)).toNat = 0 from rfl] at hx130_0)
            (try rw [Addr.add_zero'] at hx130_0)
            replace p130 := eq_true p130
            replace q130 := eq_true q130
            go_enter Tryd.func59, Tryd.ntmps59
            go_wp2
            repeat (go_quiet (fail); try go_wp2)
            go_ret3
            exact ⟨by first | rfl | (simp; done) | (simp [*]; done), by repeat (first | exact Drawn0.refl _ | apply Drawn0.step)⟩
          · rw [if_neg c7] at H
            have c7b0 : ((rd l0 0) == 255) = false := beq_eq_false_iff_ne.mpr c7
            have c7b1 : ((rd l0 0) != 255) = true := bne_iff_ne.mpr c7
            simp only [Option.some.injEq, Prod.mk.injEq] at H
            obtain ⟨rfl, rfl, rfl⟩ := H
            have p129 : 0 ≤ (0 : Int) := (by omega)
            have q129 : 0 < (l0.length : Int) := of_decide_eq_true (by first | (with_reducible assumption) | assumption)
            obtain ⟨ad129, e129, hx129_0⟩ := Kd.at_int HR0.out 0 p129 q129
            cases e129
            have qi129 : (0 < l0.length) = True := eq_true (by omega)
            (try rw [show ((0 : Int)).toNat = 0 from rfl] at hx129_0)
            (try rw [Addr.add_zero'] at hx129_0)
            replace p129 := eq_true p129
            replace q129 := eq_true q129
            have p130 : 0 ≤ (0 : Int) := (by omega)
            have q130 : 0 < (l0.length : Int) := of_decide_eq_true (by first | (with_reducible assumption) | assumption)
            obtain ⟨ad130, e130, hx130_0⟩ := Kd.at_int HR0.out 0 p130 q130
            obtain rfl : ad129 = ad130 := (by injection e130)
            have qi130 : (0 < l0.length) = True := eq_true (by omega)
            (try rw [show ((0 : Int)).toNat = 0 from rfl] at hx130_0)
            (try rw [Addr.add_zero'] at hx130_0)
            replace p130 := eq_true p130
            replace q130 := eq_true q130
            have p131 : 0 ≤ (0 : Int) := (by omega)
            have q131 : 0 < (l0.length : Int) := of_decide_eq_true (by first | (with_reducible assumption) | assumption)
            obtain ⟨ad131, e131, hx131_0⟩ := Kd.at_int HR0.out 0 p131 q131
            obtain rfl : ad129 = ad131 := (by injection e131)
            have qi131 : (0 < l0.length) = True := eq_true (by omega)
            (try rw [show ((0 : Int)).toNat = 0 from rfl] at hx131_0)
            (try rw [Addr.add_zero'] at hx131_0)
            replace p131 := eq_true p131
            replace q131 := eq_true q131
            go_enter Tryd.func59, Tryd.ntmps59
            go_wp2
            repeat (go_quiet (fail); try go_wp2)
            go_ret3
            exact ⟨by first | rfl | (simp; done) | (simp [*]; done), by repeat (first | exact Drawn0.refl _ | apply Drawn0.step)⟩
        · replace c6 := Bool.eq_false_iff.mpr c6
          subst c6
          have H1 : (some (0, 0, 7)) = some (r1, r2, r3) := by rw [if_neg (show ¬ (false = true) by decide)] at H; exact H
          clear H
          have H := H1
          clear H1
          simp only [Option.some.injEq, Prod.mk.injEq] at H
          obtain ⟨rfl, rfl, rfl⟩ := H
          have p129 : 0 ≤ (0 : Int) := (by omega)
          have q129 : 0 < (l0.length : Int) := of_decide_eq_true (by first | (with_reducible assumption) | assumption)
          obtain ⟨ad129, e129, hx129_0⟩ := Kd.at_int HR0.out 0 p129 q129
          cases e129
          have qi129 : (0 < l0.length) = True := eq_true (by omega)
          (try rw [show ((0 : Int)).toNat = 0 from rfl] at hx129_0)
          (try rw [Addr.add_zero'] at hx129_0)
          replace p129 := eq_true p129
          replace q129 := eq_true q129
          go_enter Tryd.func59, Tryd.ntmps59
          go_wp2
          repeat (go_quiet (fail); try go_wp2)
          go_ret3
          exact ⟨by first | rfl | (simp; done) | (simp [*]; done), by repeat (first | exact Drawn0.refl _ | apply Drawn0.step)⟩
      · rw [if_neg c5] at H
        have c5b0 : ((Int.tmod (rd l0 0) 2) == 1) = false := beq_eq_false_iff_ne.mpr c5
        have c5b1 : ((Int.tmod (rd l0 0) 2) != 1) = true := bne_iff_ne.mpr c5
        by_cases c8 : (l0.length : Int) < 2
        · rw [if_pos c8] at H
          have c8b0 : decide ((l0.length : Int) < 2) = true := decide_eq_true c8
          have c8b1 : decide (l0.length < 2) = true := decide_eq_true (by omega)
          clear c8
          simp only [Option.some.injEq, Prod.mk.injEq] at H
          obtain ⟨rfl, rfl, rfl⟩ := H
          have p129 : 0 ≤ (0 : Int) := (by omega)
          have q129 : 0 < (l0.length : Int) := of_decide_eq_true (by first | (with_reducible assumption) | assumption)
          obtain ⟨ad129, e129, hx129_0⟩ := Kd.at_int HR0.out 0 p129 q129
          cases e129
          have qi129 : (0 < l0.length) = True := eq_true (by omega)
          (try rw [show ((0 : Int)).toNat = 0 from rfl] at hx129_0)
          (try rw [Addr.add_zero'] at hx129_0)
          replace p129 := eq_true p129
          replace q129 := eq_true q129
          go_enter Tryd.func59, Tryd.ntmps59
          go_wp2
          repeat (go_quiet (fail); try go_wp2)
          go_ret3
          exact ⟨by first | rfl | (simp; done) | (simp [*]; done), by repeat (first | exact Drawn0.refl _ | apply Drawn0.step)⟩
        · rw [if_neg c8] at H
          have c8b0 : decide ((l0.length : Int) < 2) = false := decide_eq_false c8
          have c8b1 : decide (l0.length < 2) = false := decide_eq_false (by omega)
          clear c8
          by_cases c9 : 1 < (l0.length : Int)
          · rw [if_pos c9] at H
            have c9b0 : decide (1 < (l0.length : Int)) = true := decide_eq_true c9
            have c9b1 : decide (1 < l0.length) = true := decide_eq_true (by omega)
            clear c9
            by_cases c10 : (Int.tmod (rd l0 1) 2) = 0
            · rw [if_pos c10] at H
              have c10b0 : ((Int.tmod (rd l0 1) 2) == 0) = true := beq_iff_eq.mpr c10
              have c10b1 : ((Int.tmod (rd l0 1) 2) != 0) = false := bne_eq_false_iff_eq.mpr c10
              clear c10
              simp only [Option.some.injEq, Prod.mk.injEq] at H
              obtain ⟨rfl, rfl, rfl⟩ := H
              have p129 : 0 ≤ (0 : Int) := (by omega)
              have q129 : 0 < (l0.length : Int) := of_decide_eq_true (by first | (with_reducible assumption) | assumption)
              obtain ⟨ad129, e129, hx129_0⟩ := Kd.at_int HR0.out 0 p129 q129
              cases e129
              have qi129 : (0 < l0.length) = True := eq_true (by omega)
              (try rw [show ((0 : Int)).toNat = 0 from rfl] at hx129_0)
              (try rw [Addr.add_zero'] at hx129_0)
              replace p129 := eq_true p129
              replace q129 := eq_true q129
              have p132 : 0 ≤ (1 : Int) := (by omega)
              have q132 : 1 < (l0.length : Int) := of_decide_eq_true (by first | (with_reducible assumption) | assumption)
              obtain ⟨ad132, e132, hx132_0⟩ := Kd.at_int HR0.out 1 p132 q132
              obtain rfl : ad129 = ad132 := (by injection e132)
              (try simp only [show (1 : Int).toNat = 1 from rfl, Nat.reduceMul, Nat.reduceEqDiff, Go.Addr.add, ↓reduceIte] at hx132_0)
              have qi132 : (1 < l0.length) = True := eq_true (by omega)
              (try rw [show ((1 : Int)).toNat = 1 from rfl] at hx132_0)
              replace p132 := eq_true p132
              replace q132 := eq_true q132
              go_enter Tryd.func59, Tryd.ntmps59
              go_wp2
              repeat (go_quiet (fail); try go_wp2)
              go_ret3
              exact ⟨by first | rfl | (simp; done) | (simp [*]; done), by repeat (first | exact Drawn0.refl _ | apply Drawn0.step)⟩
            · rw [if_neg c10] at H
              have c10b0 : ((Int.tmod (rd l0 1) 2) == 0) = false := beq_eq_false_iff_ne.mpr c10
              have c10b1 : ((Int.tmod (rd l0 1) 2) != 0) = true := bne_iff_ne.mpr c10
              by_cases c11 : (rd l0 0) = 0
              · rw [if_pos c11] at H
                have c11b0 : ((rd l0 0) == 0) = true := beq_iff_eq.mpr c11
                have c11b1 : ((rd l0 0) != 0) = false := bne_eq_false_iff_eq.mpr c11
                clear c11
                by_cases c12 : (rd l0 1) = 255
                · rw [if_pos c12] at H
                  have c12b0 : ((rd l0 1) == 255) = true := beq_iff_eq.mpr c12
                  have c12b1 : ((rd l0 1) != 255) = false := bne_eq_false_iff_eq.mpr c12
                  clear c12
                  simp only [Option.some.injEq, Prod.mk.injEq] at H
                  obtain ⟨rfl, rfl, rfl⟩ := H
                  have p129 : 0 ≤ (0 : Int) := (by omega)
                  have q129 : 0 < (l0.length : Int) := of_decide_eq_true (by first | (with_reducible assumption) | assumption)
                  obtain ⟨ad129, e129, hx129_0⟩ := Kd.at_int HR0.out 0 p129 q129
                  cases e129
                  have qi129 : (0 < l0.length) = True := eq_true (by omega)
                  (try rw [show ((0 : Int)).toNat = 0 from rfl] at hx129_0)
                  (try rw [Addr.add_zero'] at hx129_0)
                  replace p129 := eq_true p129
                  replace q129 := eq_true q129
                  have p132 : 0 ≤ (1 : Int) := (by omega)
                  have q132 : 1 < (l0.length : Int) := of_decide_eq_true (by first | (with_reducible assumption) | assumption)
                  obtain ⟨ad132, e132, hx132_0⟩ := Kd.at_int HR0.out 1 p132 q132
                  obtain rfl : ad129 = ad132 := (by injection e132)
                  (try simp only [show (1 : Int).toNat = 1 from rfl, Nat.reduceMul, Nat.reduceEqDiff, Go.Addr.add, ↓reduceIte] at hx132_0)
                  have qi132 : (1 < l0.length) = True := eq_true (by omega)
                  (try rw [show ((1 : Int)).toNat = 1 from rfl] at hx132_0)
                  replace p132 := eq_true p132
                  replace q132 := eq_true q132
                  have p133 : 0 ≤ (0 : Int) := (by omega)
                  have q133 : 0 < (l0.length : Int) := of_decide_eq_true (by first | (with_reducible assumption) | assumption)
                  obtain ⟨ad133, e133, hx133_0⟩ := Kd.at_int HR0.out 0 p133 q133
                  obtain rfl : ad129 = ad133 := (by injection e133)
                  have qi133 : (0 < l0.length) = True := eq_true (by omega)
                  (try rw [show ((0 : Int)).toNat = 0 from rfl] at hx133_0)
                  (try rw [Addr.add_zero'] at hx133_0)
                  replace p133 := eq_true p133
                  replace q133 := eq_true q133
                  have p134 : 0 ≤ (1 : Int) := (by omega)
                  have q134 : 1 < (l0.length : Int) := of_decide_eq_true (by first | (with_reducible assumption) | assumption)
                  obtain ⟨ad134, e134, hx134_0⟩ := Kd.at_int HR0.out 1 p134 q134
                  obtain rfl : ad129 = ad134 := (by injection e134)
                  (try simp only [show (1 : Int).toNat = 1 from rfl, Nat.reduceMul, Nat.reduceEqDiff, Go.Addr.add, ↓reduceIte] at hx134_0)
                  have qi134 : (1 < l0.length) = True := eq_true (by omega)
                  (try rw [show ((1 : Int)).toNat = 1 from rfl] at hx134_0)
                  replace p134 := eq_true p134
                  replace q134 := eq_true q134
                  go_enter Tryd.func59, Tryd.ntmps59
                  go_wp2
                  repeat (go_quiet (fail); try go_wp2)
                  go_ret3
                  exact ⟨by first | rfl | (simp; done) | (simp [*]; done), by repeat (first | exact Drawn0.refl _ | apply Drawn0.step)⟩
                · rw [if_neg c12] at H
                  have c12b0 : ((rd l0 1) == 255) = false := beq_eq_false_iff_ne.mpr c12
                  have c12b1 : ((rd l0 1) != 255) = true := bne_iff_ne.mpr c12
                  simp only [Option.some.injEq, Prod.mk.injEq] at H
                  obtain ⟨rfl, rfl, rfl⟩ := H
                  have p129 : 0 ≤ (0 : Int) := (by omega)
                  have q129 : 0 < (l0.length : Int) := of_decide_eq_true (by first | (with_reducible assumption) | assumption)
                  obtain ⟨ad129, e129, hx129_0⟩ := Kd.at_int HR0.out 0 p129 q129
                  cases e129
                  have qi129 : (0 < l0.length) = True := eq_true (by omega)
                  (try rw [show ((0 : Int)).toNat = 0 from rfl] at hx129_0)
                  (try rw [Addr.add_zero'] at hx129_0)
                  replace p129 := eq_true p129
                  replace q129 := eq_true q129
                  have p132 : 0 ≤ (1 : Int) := (by omega)
                  have q132 : 1 < (l0.length : Int) := of_decide_eq_true (by first | (with_reducible assumption) | assumption)
                  obtain ⟨ad132, e132, hx132_0⟩ := Kd.at_int HR0.out 1 p132 q132
                  obtain rfl : ad129 = ad132 := (by injection e132)
                  (try simp only [show (1 : Int).toNat = 1 from rfl, Nat.reduceMul, Nat.reduceEqDiff, Go.Addr.add, ↓reduceIte] at hx132_0)
                  have qi132 : (1 < l0.length) = True := eq_true (by omega)
                  (try rw [show ((1 : Int)).toNat = 1 from rfl] at hx132_0)
                  replace p132 := eq_true p132
                  replace q132 := eq_true q132
                  have p133 : 0 ≤ (0 : Int) := (by omega)
                  have q133 : 0 < (l0.length : Int) := of_decide_eq_true (by first | (with_reducible assumption) | assumption)
                  obtain ⟨ad133, e133, hx133_0⟩ := Kd.at_int HR0.out 0 p133 q133
                  obtain rfl : ad129 = ad133 := (by injection e133)
                  have qi133 : (0 < l0.length) = True := eq_true (by omega)
                  (try rw [show ((0 : Int)).toNat = 0 from rfl] at hx133_0)
                  (try rw [Addr.add_zero'] at hx133_0)
                  replace p133 := eq_true p133
                  replace q133 := eq_true q133
                  have p134 : 0 ≤ (1 : Int) := (by omega)
                  have q134 : 1 < (l0.length : Int) := of_decide_eq_true (by first | (with_reducible assumption) | assumption)
                  obtain ⟨ad134, e134, hx134_0⟩ := Kd.at_int HR0.out 1 p134 q134
                  obtain rfl : ad129 = ad134 := (by injection e134)
                  (try simp only [show (1 : Int).toNat = 1 from rfl, Nat.reduceMul, Nat.reduceEqDiff, Go.Addr.add, ↓reduceIte] at hx134_0)
                  have qi134 : (1 < l0.length) = True := eq_true (by omega)
                  (try rw [show ((1 : Int)).toNat = 1 from rfl] at hx134_0)
                  replace p134 := eq_true p134
                  replace q134 := eq_true q134
                  have p135 : 0 ≤ (0 : Int) := (by omega)
                  have q135 : 0 < (l0.length : Int) := of_decide_eq_true (by first | (with_reducible assumption) | assumption)
                  obtain ⟨ad135, e135, hx135_0⟩ := Kd.at_int HR0.out 0 p135 q135
                  obtain rfl : ad129 = ad135 := (by injection e135)
                  have qi135 : (0 < l0.length) = True := eq_true (by omega)
                  (try rw [show ((0 : Int)).toNat = 0 from rfl] at hx135_0)
                  (try rw [Addr.add_zero'] at hx135_0)
                  replace p135 := eq_true p135
                  replace q135 := eq_true q135
                  have p136 : 0 ≤ (1 : Int) := (by omega)
                  have q136 : 1 < (l0.length : Int) := of_decide_eq_true (by first | (with_reducible assumption) | assumption)
                  obtain ⟨ad136, e136, hx136_0⟩ := Kd.at_int HR0.out 1 p136 q136
                  obtain rfl : ad129 = ad136 := (by injection e136)
                  (try simp only [show (1 : Int).toNat = 1 from rfl, Nat.reduceMul, Nat.reduceEqDiff, Go.Addr.add, ↓reduceIte] at hx136_0)
                  have qi136 : (1 < l0.length) = True := eq_true (by omega)
                  (try rw [show ((1 : Int)).toNat = 1 from rfl] at hx136_0)
                  replace p136 := eq_true p136
                  replace q136 := eq_true q136
                  go_enter Tryd.func59, Tryd.ntmps59
                  go_wp2
                  repeat (go_quiet (fail); try go_wp2)
                  go_ret3
                  exact ⟨by first | rfl | (simp; done) | (simp [*]; done), by repeat (first | exact Drawn0.refl _ | apply Drawn0.step)⟩
              · rw [if_neg c11] at H
                have c11b0 : ((rd l0 0) == 0) = false := beq_eq_false_iff_ne.mpr c11
                have c11b1 : ((rd l0 0) != 0) = true := bne_iff_ne.mpr c11
                simp only [Option.some.injEq, Prod.mk.injEq] at H
                obtain ⟨rfl, rfl, rfl⟩ := H
                have p129 : 0 ≤ (0 : Int) := (by omega)
                have q129 : 0 < (l0.length : Int) := of_decide_eq_true (by first | (with_reducible assumption) | assumption)
                obtain ⟨ad129, e129, hx129_0⟩ := Kd.at_int HR0.out 0 p129 q129
                cases e129
                have qi129 : (0 < l0.length) = True := eq_true (by omega)
                (try rw [show ((0 : Int)).toNat = 0 from rfl] at hx129_0)
                (try rw [Addr.add_zero'] at hx129_0)
                replace p129 := eq_true p129
                replace q129 := eq_true q129
                have p132 : 0 ≤ (1 : Int) := (by omega)
                have q132 : 1 < (l0.length : Int) := of_decide_eq_true (by first | (with_reducible assumption) | assumption)
                obtain ⟨ad132, e132, hx132_0⟩ := Kd.at_int HR0.out 1 p132 q132
                obtain rfl : ad129 = ad132 := (by injection e132)
                (try simp only [show (1 : Int).toNat = 1 from rfl, Nat.reduceMul, Nat.reduceEqDiff, Go.Addr.add, ↓reduceIte] at hx132_0)
                have qi132 : (1 < l0.length) = True := eq_true (by omega)
                (try rw [show ((1 : Int)).toNat = 1 from rfl] at hx132_0)
                replace p132 := eq_true p132
                replace q132 := eq_true q132
                have p133 : 0 ≤ (0 : Int) := (by omega)
                have q133 : 0 < (l0.length : Int) := of_decide_eq_true (by first | (with_reducible assumption) | assumption)
                obtain ⟨ad133, e133, hx133_0⟩ := Kd.at_int HR0.out 0 p133 q133
                obtain rfl : ad129 = ad133 := (by injection e133)
                have qi133 : (0 < l0.length) = True := eq_true (by omega)
                (try rw [show ((0 : Int)).toNat = 0 from rfl] at hx133_0)
                (try rw [Addr.add_zero'] at hx133_0)
                replace p133 := eq_true p133
                replace q133 := eq_true q133
                have p137 : 0 ≤ (0 : Int) := (by omega)
                have q137 : 0 < (l0.length : Int) := of_decide_eq_true (by first | (with_reducible assumption) | assumption)
                obtain ⟨ad137, e137, hx137_0⟩ := Kd.at_int HR0.out 0 p137 q137
                obtain rfl : ad129 = ad137 := (by injection e137)
                have qi137 : (0 < l0.length) = True := eq_true (by omega)
                (try rw [show ((0 : Int)).toNat = 0 from rfl] at hx137_0)
                (try rw [Addr.add_zero'] at hx137_0)
                replace p137 := eq_true p137
                replace q137 := eq_true q137
                have p138 : 0 ≤ (1 : Int) := (by omega)
                have q138 : 1 < (l0.length : Int) := of_decide_eq_true (by first | (with_reducible assumption) | assumption)
                obtain ⟨ad138, e138, hx138_0⟩ := Kd.at_int HR0.out 1 p138 q138
                obtain rfl : ad129 = ad138 := (by injection e138)
                (try simp only [show (1 : Int).toNat = 1 from rfl, Nat.reduceMul, Nat.reduceEqDiff, Go.Addr.add, ↓reduceIte] at hx138_0)
                have qi138 : (1 < l0.length) = True := eq_true (by omega)
                (try rw [show ((1 : Int)).toNat = 1 from rfl] at hx138_0)
                replace p138 := eq_true p138
                replace q138 := eq_true q138
                go_enter Tryd.func59, Tryd.ntmps59
                go_wp2
                repeat (go_quiet (fail); try go_wp2)
                go_ret3
                exact ⟨by first | rfl | (simp; done) | (simp [*]; done), by repeat (first | exact Drawn0.refl _ | apply Drawn0.step)⟩
          · rw [if_neg c9] at H
            exact absurd H (by simp)
    · rw [if_neg c4] at H
      exact absurd H (by simp)
end Go.Proofs.YtggpejjfgphihaaDoor.H
end

section
namespace Go.Proofs.YtggpejjfgphihaaDoor.H
open Go.Proofs.YtggpejjfgphihaaDoor.Given Go.Proofs.YtggpejjfgphihaaDoor.D Go.RowKit Go.Proofs.YtggpejjfgphihaaDoorW.PrintWords Go.Proofs.YtggpejjfgphihaaDoorW.PrintLast Go.Proofs.YtggpejjfgphihaaDoorW.PrintMore
attribute [local go_sem] max2_int min2_int max_two min_two max_three min_three max_four min_four
set_option linter.unusedVariables false
set_option linter.unusedSimpArgs false
def marlineref10_Get.j0 : Nat → List Int → Int → Bool → Bool → Bool → Bool → Bool → Int → Int → Int → Option (Int × Int × Int)
  | 0, _, _, _, _, _, _, _, _, _, _ => none
  | k + 1, x1, x7, x25, x140000, x140001, x140002, x140003, x140004, x140005, x140006 => if x25 = true then (if 2 ≤ (x1.length : Int) then ((marlineref09_Get.f (x1.drop 2) x140003).bind fun bt143 => (if bt143.2.2 = 0 then (some (bt143.1, wrap64 (2 + bt143.2.1), 0)) else (some (0, 0, 7)))) else (none)) else (if x140002 = true then (if 0 ≤ x7 then (if x7 ≤ (x1.length : Int) then ((marlineref09_Get.f (x1.drop (x7 : Int).toNat) x140003).bind fun bt147 => (if bt147.2.2 = 0 then (some (bt147.1, wrap64 (x7 + bt147.2.1), 0)) else (some (0, 0, 7)))) else (none)) else (none)) else (some (0, 0, 7)))
def marlineref10_Get.f (k : Nat) (a0_0 : Bool) (a0_1 : Bool) (a0_2 : Bool) (a0_3 : Bool) (a0_4 : Int) (a0_5 : Int) (a0_6 : Int) (l1 : List Int) : Option (Int × Int × Int) := if (l1.length : Int) ≥ 2 then (if 0 < (l1.length : Int) then (if (rd l1 0) = 255 then (if 1 < (l1.length : Int) then (marlineref10_Get.j0 k l1 0 ((rd l1 1) == 3) a0_0 a0_1 a0_2 a0_3 a0_4 a0_5 a0_6) else (none)) else (marlineref10_Get.j0 k l1 0 false a0_0 a0_1 a0_2 a0_3 a0_4 a0_5 a0_6)) else (none)) else (marlineref10_Get.j0 k l1 0 false a0_0 a0_1 a0_2 a0_3 a0_4 a0_5 a0_6)
set_option maxHeartbeats 8000000 in
set_option maxRecDepth 100000 in
theorem marlineref10_Get.calls (k : Nat) (a0_0 : Bool) (a0_1 : Bool) (a0_2 : Bool) (a0_3 : Bool) (a0_4 : Int) (a0_5 : Int) (a0_6 : Int) (A1 : Option Addr) (c1 : Nat) (l1 : List Int) (r1 : Int) (r2 : Int) (r3 : Int) (w : World) (hr1 : Kd.C (Kd.int .u8) w A1 l1.length l1) (hc1 : l1.length ≤ c1) (h : marlineref10_Get.f k a0_0 a0_1 a0_2 a0_3 a0_4 a0_5 a0_6 l1 = some (r1, r2, r3)) :
    Calls Tryd.prog 30 #[.agg #[.bool a0_0, .bool a0_1, .bool a0_2, .bool a0_3, .int .u32 a0_4, .int .u32 a0_5, .int .i64 a0_6], .slice A1 l1.length c1] w fun e w' => e = .returned (.tuple #[.int .i64 r1, .int .i64 r2, .int .i64 r3]) ∧ Below w.heap.size w w' := by
  have hu24 := Tryd.underlying24
  have HR1 := Aside0.mk hr1
  have HC1 := Aside0.mk hc1
  clear hr1 hc1
  have HB := Aside0.mk (Below.refl w.heap.size w)
  have H : (if (l1.length : Int) ≥ 2 then (if 0 < (l1.length : Int) then (if (rd l1 0) = 255 then (if 1 < (l1.length : Int) then (marlineref10_Get.j0 k l1 0 ((rd l1 1) == 3) a0_0 a0_1 a0_2 a0_3 a0_4 a0_5 a0_6) else (none)) else (marlineref10_Get.j0 k l1 0 false a0_0 a0_1 a0_2 a0_3 a0_4 a0_5 a0_6)) else (none)) else (marlineref10_Get.j0 k l1 0 false a0_0 a0_1 a0_2 a0_3 a0_4 a0_5 a0_6)) = some (r1, r2, r3) := h
  clear h
  have HC3 := Aside0.mk H
  clear H
  go_enter Tryd.func30, Tryd.ntmps30
  go_upto_region 2 with (first | ((with_reducible refine gate_dst (N := 2) rfl ?_); refine box_event ?hg (N := 2) ?hd (cs := #[.bool a0_0, .bool a0_1, .bool a0_2, .bool a0_3, .int .u32 a0_4, .int .u32 a0_5, .int .i64 a0_6]) (t := 24) ?hr ?_; (case hd => rfl); (case hg => rfl); (case hr => first | (go_simp; done) | (go_simp; rfl)); intro gb139 hg w4 hbox hb; have n0_ := Aside0.mk (below_step (by repeat (first | (with_reducible first | exact HB.out | apply below_alloc | apply pw_below_drewN | apply below_drew1) | exact HB.out)) hb); have n1_ := Aside0.mk (hbox); have n2_ := Aside0.mk ((by rw [hg]; exact (below_size (by repeat (first | (with_reducible first | exact HB.out | apply below_alloc | apply pw_below_drewN | apply below_drew1) | exact HB.out))) : w.heap.size ≤ gb139)); have n3_ := Aside0.mk ((by rw [hg]; exact (below_size (by repeat (first | (with_reducible first | exact HB.out | apply below_alloc | apply pw_below_drewN | apply below_drew1) | exact HB.out))) : w.heap.size ≤ gb139)); clear HB; have HB := n0_; have BK139 := n1_; have GW139 := n2_; have GE139 := n3_; clear n0_ n1_ n2_ n3_; clear hb hbox hg))
  repeat (go_quiet (first | ((with_reducible refine gate_dst (N := 2) rfl ?_); refine box_event ?hg (N := 2) ?hd (cs := #[.bool a0_0, .bool a0_1, .bool a0_2, .bool a0_3, .int .u32 a0_4, .int .u32 a0_5, .int .i64 a0_6]) (t := 24) ?hr ?_; (case hd => rfl); (case hg => rfl); (case hr => first | (go_simp; done) | (go_simp; rfl)); intro gb139 hg w4 hbox hb; have n0_ := Aside0.mk (below_step (by repeat (first | (with_reducible first | exact HB.out | apply below_alloc | apply pw_below_drewN | apply below_drew1) | exact HB.out)) hb); have n1_ := Aside0.mk (hbox); have n2_ := Aside0.mk ((by rw [hg]; exact (below_size (by repeat (first | (with_reducible first | exact HB.out | apply below_alloc | apply pw_below_drewN | apply below_drew1) | exact HB.out))) : w.heap.size ≤ gb139)); have n3_ := Aside0.mk ((by rw [hg]; exact (below_size (by repeat (first | (with_reducible first | exact HB.out | apply below_alloc | apply pw_below_drewN | apply below_drew1) | exact HB.out))) : w.heap.size ≤ gb139)); clear HB; have HB := n0_; have BK139 := n1_; have GW139 := n2_; have GE139 := n3_; clear n0_ n1_ n2_ n3_; clear hb hbox hg)); go_upto_region 2 with (first | ((with_reducible refine gate_dst (N := 2) rfl ?_); refine box_event ?hg (N := 2) ?hd (cs := #[.bool a0_0, .bool a0_1, .bool a0_2, .bool a0_3, .int .u32 a0_4, .int .u32 a0_5, .int .i64 a0_6]) (t := 24) ?hr ?_; (case hd => rfl); (case hg => rfl); (case hr => first | (go_simp; done) | (go_simp; rfl)); intro gb139 hg w4 hbox hb; have n0_ := Aside0.mk (below_step (by repeat (first | (with_reducible first | exact HB.out | apply below_alloc | apply pw_below_drewN | apply below_drew1) | exact HB.out)) hb); have n1_ := Aside0.mk (hbox); have n2_ := Aside0.mk ((by rw [hg]; exact (below_size (by repeat (first | (with_reducible first | exact HB.out | apply below_alloc | apply pw_below_drewN | apply below_drew1) | exact HB.out))) : w.heap.size ≤ gb139)); have n3_ := Aside0.mk ((by rw [hg]; exact (below_size (by repeat (first | (with_reducible first | exact HB.out | apply below_alloc | apply pw_below_drewN | apply below_drew1) | exact HB.out))) : w.heap.size ≤ gb139)); clear HB; have HB := n0_; have BK139 := n1_; have GW139 := n2_; have GE139 := n3_; clear n0_ n1_ n2_ n3_; clear hb hbox hg)))
  (try simp only [Act.put, List.setIfInBounds_toArray, List.set_cons_zero, List.set_cons_succ])
  go_cut [25] (fun v25 wc => ∃ (kq : Nat) (x25_2 : Bool), v25 = .bool x25_2 ∧ Aside0 (marlineref10_Get.j0 kq l1 0 x25_2 a0_0 a0_1 a0_2 a0_3 a0_4 a0_5 a0_6 = some (r1, r2, r3)) ∧ Aside0 (kq ≤ k) ∧ Aside0 (wc.heap[gb139]? = some (.cells #[.bool a0_0, .bool a0_1, .bool a0_2, .bool a0_3, .int .u32 a0_4, .int .u32 a0_5, .int .i64 a0_6] 24 (0, 0))) ∧ Aside0 (Below w.heap.size w wc))
  case first =>
    have H := HC3.out
    clear HC3
    by_cases c5 : (l1.length : Int) ≥ 2
    · rw [if_pos c5] at H
      have c5b0 : decide (2 ≤ (l1.length : Int)) = true := decide_eq_true c5
      have c5b1 : decide (2 ≤ l1.length) = true := decide_eq_true (by omega)
      clear c5
      (first | rw [c5b0] | (simp only [i64_w, i32_w]; rw [c5b0]) | skip)
      by_cases c6 : 0 < (l1.length : Int)
      · rw [if_pos c6] at H
        have c6b0 : decide (0 < (l1.length : Int)) = true := decide_eq_true c6
        have c6b1 : decide (0 < l1.length) = true := decide_eq_true (by omega)
        clear c6
        by_cases c7 : (rd l1 0) = 255
        · rw [if_pos c7] at H
          have c7b0 : ((rd l1 0) == 255) = true := beq_iff_eq.mpr c7
          have c7b1 : ((rd l1 0) != 255) = false := bne_eq_false_iff_eq.mpr c7
          clear c7
          by_cases c8 : 1 < (l1.length : Int)
          · rw [if_pos c8] at H
            have c8b0 : decide (1 < (l1.length : Int)) = true := decide_eq_true c8
            have c8b1 : decide (1 < l1.length) = true := decide_eq_true (by omega)
            clear c8
            have H' := Aside0.mk H
            clear H
            have p140 : 0 ≤ (0 : Int) := (by omega)
            have q140 : 0 < (l1.length : Int) := of_decide_eq_true (by first | (with_reducible assumption) | assumption)
            obtain ⟨ad140, e140, hx140_0⟩ := Kd.at_int HR1.out 0 p140 q140
            cases e140
            have qi140 : (0 < l1.length) = True := eq_true (by omega)
            (try rw [show ((0 : Int)).toNat = 0 from rfl] at hx140_0)
            (try rw [Addr.add_zero'] at hx140_0)
            replace hx140_0 := (HB.out.cell (World.block_lt_of_cell? w _ hx140_0)).trans hx140_0
            replace p140 := eq_true p140
            replace q140 := eq_true q140
            have p141 : 0 ≤ (1 : Int) := (by omega)
            have q141 : 1 < (l1.length : Int) := of_decide_eq_true (by first | (with_reducible assumption) | assumption)
            obtain ⟨ad141, e141, hx141_0⟩ := Kd.at_int HR1.out 1 p141 q141
            obtain rfl : ad140 = ad141 := (by injection e141)
            (try simp only [show (1 : Int).toNat = 1 from rfl, Nat.reduceMul, Nat.reduceEqDiff, Go.Addr.add, ↓reduceIte] at hx141_0)
            have qi141 : (1 < l1.length) = True := eq_true (by omega)
            (try rw [show ((1 : Int)).toNat = 1 from rfl] at hx141_0)
            replace hx141_0 := (HB.out.cell (World.block_lt_of_cell? w _ hx141_0)).trans hx141_0
            replace p141 := eq_true p141
            replace q141 := eq_true q141
            go_wp2
            repeat (go_quiet (fail); try go_wp2)
            go_meet
            case rel => exact ⟨_, (((rd l1 1) == 3)), (by first | rfl | (simp; done) | (simp [*]; done)), H', ⟨by first | omega | exact Nat.le_refl _⟩, ⟨by (with_reducible repeat (first | refine blk_drewN ?_ _ | refine blk_drew ?_ | refine blk_alloc ?_ _)); exact BK139.out⟩, ⟨by repeat (first | (with_reducible first | exact HB.out | apply below_alloc | apply pw_below_drewN | apply below_drew1 | refine below_set ?_ GE139.out) | exact HB.out)⟩⟩
          · rw [if_neg c8] at H
            exact absurd H (by simp)
        · rw [if_neg c7] at H
          have c7b0 : ((rd l1 0) == 255) = false := beq_eq_false_iff_ne.mpr c7
          have c7b1 : ((rd l1 0) != 255) = true := bne_iff_ne.mpr c7
          have H' := Aside0.mk H
          clear H
          have p140 : 0 ≤ (0 : Int) := (by omega)
          have q140 : 0 < (l1.length : Int) := of_decide_eq_true (by first | (with_reducible assumption) | assumption)
          obtain ⟨ad140, e140, hx140_0⟩ := Kd.at_int HR1.out 0 p140 q140
          cases e140
          have qi140 : (0 < l1.length) = True := eq_true (by omega)
          (try rw [show ((0 : Int)).toNat = 0 from rfl] at hx140_0)
          (try rw [Addr.add_zero'] at hx140_0)
          replace hx140_0 := (HB.out.cell (World.block_lt_of_cell? w _ hx140_0)).trans hx140_0
          replace p140 := eq_true p140
          replace q140 := eq_true q140
          go_wp2
          repeat (go_quiet (fail); try go_wp2)
          go_meet
          case rel => exact ⟨_, (false), (by first | rfl | (simp; done) | (simp [*]; done)), H', ⟨by first | omega | exact Nat.le_refl _⟩, ⟨by (with_reducible repeat (first | refine blk_drewN ?_ _ | refine blk_drew ?_ | refine blk_alloc ?_ _)); exact BK139.out⟩, ⟨by repeat (first | (with_reducible first | exact HB.out | apply below_alloc | apply pw_below_drewN | apply below_drew1 | refine below_set ?_ GE139.out) | exact HB.out)⟩⟩
      · rw [if_neg c6] at H
        exact absurd H (by simp)
    · rw [if_neg c5] at H
      have c5b0 : decide (2 ≤ (l1.length : Int)) = false := decide_eq_false c5
      have c5b1 : decide (2 ≤ l1.length) = false := decide_eq_false (by omega)
      clear c5
      (first | rw [c5b0] | (simp only [i64_w, i32_w]; rw [c5b0]) | skip)
      have H' := Aside0.mk H
      clear H
      go_wp2
      repeat (go_quiet (fail); try go_wp2)
      go_meet
      case rel => exact ⟨_, (false), (by first | rfl | (simp; done) | (simp [*]; done)), H', ⟨by first | omega | exact Nat.le_refl _⟩, ⟨by (with_reducible repeat (first | refine blk_drewN ?_ _ | refine blk_drew ?_ | refine blk_alloc ?_ _)); exact BK139.out⟩, ⟨by repeat (first | (with_reducible first | exact HB.out | apply below_alloc | apply pw_below_drewN | apply below_drew1 | refine below_set ?_ GE139.out) | exact HB.out)⟩⟩
  case rest =>
    clear HC3
    try clear c1
    try clear p1
    try clear q1
    try clear hx1
    try clear qi1
    try clear p2
    try clear c3
    try clear c5
    try clear c5b0
    try clear c5b1
    try clear c6
    try clear c6b0
    try clear c6b1
    try clear c7
    try clear c7b0
    try clear c7b1
    try clear c8
    try clear c8b0
    try clear c8b1
    try clear hx140_0
    try clear hx141_0
    try clear p140
    try clear p141
    try clear q140
    try clear q141
    obtain ⟨kq, x25_2, rfl, HA, HJ2, BK139, HB⟩ := hcut
    cases kq with
    | zero => exact absurd HA.out (by simp [marlineref10_Get.j0])
    | succ kj2 =>
      have H := HA.out
      clear HA
      simp only [marlineref10_Get.j0] at H
      by_cases c9 : x25_2 = true
      · subst c9
        have H1 : (if 2 ≤ (l1.length : Int) then ((marlineref09_Get.f (l1.drop 2) a0_3).bind fun bt143 => (if bt143.2.2 = 0 then (some (bt143.1, wrap64 (2 + bt143.2.1), 0)) else (some (0, 0, 7)))) else (none)) = some (r1, r2, r3) := by rw [if_pos rfl] at H; exact H
        clear H
        have H := H1
        clear H1
        by_cases c10 : 2 ≤ (l1.length : Int)
        · rw [if_pos c10] at H
          have c10b0 := eq_true c10
          have c10b1 : decide (2 ≤ (l1.length : Int)) = true := decide_eq_true c10
          clear c10
          replace H := Option.bind_eq_some_iff.mp H
          obtain ⟨⟨t143, t144, t145⟩, A110, H⟩ := H
          replace H : (if t145 = 0 then (some (t143, wrap64 (2 + t144), 0)) else (some (0, 0, 7))) = some (r1, r2, r3) := H
          have A11 := Aside0.mk A110
          clear A110
          by_cases c12 : t145 = 0
          · rw [if_pos c12] at H
            have c12b0 : (t145 == 0) = true := beq_iff_eq.mpr c12
            have c12b1 : (t145 != 0) = false := bne_eq_false_iff_eq.mpr c12
            clear c12
            simp only [Option.some.injEq, Prod.mk.injEq] at H
            obtain ⟨rfl, rfl, rfl⟩ := H
            obtain ⟨i013, hi013, _, hsz13, _⟩ := info_parts info5
            obtain ⟨A13, hcut13, hA13, hC13⟩ := print_drop_of (P := Tryd.prog) (Value.int .u8) 0 35 5 .i64 Tryd.underlying35 hi013 hsz13 A1 c1 l1 2 (by omega) (of_decide_eq_true (by first | (with_reducible assumption) | assumption)) HC1.out
            have HR142 := Aside0.mk (Kd.C_of_reads (h1 := fun _ => rfl) (hA13 _ (Kd.reads_of_C HR1.out)))
            have HC142 := Aside0.mk hC13
            clear hA13 hC13 hi013 hsz13
            have hcz14_0 : wc.cell? ⟨gb139, 0, none⟩ = some (.bool a0_0) := (blk_cell BK139.out 0).trans rfl
            have hcz14_1 : wc.cell? ⟨gb139, 1, none⟩ = some (.bool a0_1) := (blk_cell BK139.out 1).trans rfl
            have hcz14_2 : wc.cell? ⟨gb139, 2, none⟩ = some (.bool a0_2) := (blk_cell BK139.out 2).trans rfl
            have hcz14_3 : wc.cell? ⟨gb139, 3, none⟩ = some (.bool a0_3) := (blk_cell BK139.out 3).trans rfl
            have hcz14_4 : wc.cell? ⟨gb139, 4, none⟩ = some (.int .u32 a0_4) := (blk_cell BK139.out 4).trans rfl
            have hcz14_5 : wc.cell? ⟨gb139, 5, none⟩ = some (.int .u32 a0_5) := (blk_cell BK139.out 5).trans rfl
            have hcz14_6 : wc.cell? ⟨gb139, 6, none⟩ = some (.int .i64 a0_6) := (blk_cell BK139.out 6).trans rfl
            have hfz14_0 := blk_frozen BK139.out 0
            have hfz14_1 := blk_frozen BK139.out 1
            have hfz14_2 := blk_frozen BK139.out 2
            have hfz14_3 := blk_frozen BK139.out 3
            have hfz14_4 := blk_frozen BK139.out 4
            have hfz14_5 := blk_frozen BK139.out 5
            have hfz14_6 := blk_frozen BK139.out 6
            go_wp2_with (first | (go_at_call 59; refine calls_of_args (args' := #[.slice A13 (l1.drop 2).length (c1 - 2), .bool a0_3]) (by first | (rw [show (l1.drop 2).length = (l1.length - 2) from List.length_drop] <;> rfl) |  rfl) ?_; (with_reducible refine (marlineref09_Get.calls _ _ (l1.drop 2) a0_3 t143 t144 t145 _ ?side1 ?side2 A11.out).mono ?_); (case side1 => repeat (first | exact (Kd.C_below HR142.out HB.out) | (with_reducible refine Kd.C_alloc ?_ _) | (with_reducible refine Kd.C_drewN ?_ _) | (with_reducible refine Kd.C_drew ?_))); (case side2 => exact HC142.out); rintro e w' ⟨rfl, ⟨nd, rfl⟩⟩; (try first | exact ⟨rfl, _, World.drewN_drewN _ _ _⟩ | exact ⟨rfl, _, Eq.trans (World.drewN_drewN _ _ _) (congrArg (World.drewN _) (Nat.add_assoc _ _ _))⟩)))
            repeat (go_quiet (first | (go_at_call 59; refine calls_of_args (args' := #[.slice A13 (l1.drop 2).length (c1 - 2), .bool a0_3]) (by first | (rw [show (l1.drop 2).length = (l1.length - 2) from List.length_drop] <;> rfl) |  rfl) ?_; (with_reducible refine (marlineref09_Get.calls _ _ (l1.drop 2) a0_3 t143 t144 t145 _ ?side1 ?side2 A11.out).mono ?_); (case side1 => repeat (first | exact (Kd.C_below HR142.out HB.out) | (with_reducible refine Kd.C_alloc ?_ _) | (with_reducible refine Kd.C_drewN ?_ _) | (with_reducible refine Kd.C_drew ?_))); (case side2 => exact HC142.out); rintro e w' ⟨rfl, ⟨nd, rfl⟩⟩; (try first | exact ⟨rfl, _, World.drewN_drewN _ _ _⟩ | exact ⟨rfl, _, Eq.trans (World.drewN_drewN _ _ _) (congrArg (World.drewN _) (Nat.add_assoc _ _ _))⟩))); try go_wp2_with (first | (go_at_call 59; refine calls_of_args (args' := #[.slice A13 (l1.drop 2).length (c1 - 2), .bool a0_3]) (by first | (rw [show (l1.drop 2).length = (l1.length - 2) from List.length_drop] <;> rfl) |  rfl) ?_; (with_reducible refine (marlineref09_Get.calls _ _ (l1.drop 2) a0_3 t143 t144 t145 _ ?side1 ?side2 A11.out).mono ?_); (case side1 => repeat (first | exact (Kd.C_below HR142.out HB.out) | (with_reducible refine Kd.C_alloc ?_ _) | (with_reducible refine Kd.C_drewN ?_ _) | (with_reducible refine Kd.C_drew ?_))); (case side2 => exact HC142.out); rintro e w' ⟨rfl, ⟨nd, rfl⟩⟩; (try first | exact ⟨rfl, _, World.drewN_drewN _ _ _⟩ | exact ⟨rfl, _, Eq.trans (World.drewN_drewN _ _ _) (congrArg (World.drewN _) (Nat.add_assoc _ _ _))⟩))))
            go_ret3
            exact ⟨by first | rfl | (simp [errW_none, errW_some] <;> rfl) | (simp [*, errW_none, errW_some] <;> rfl), by repeat (first | (with_reducible first | exact HB.out | apply below_alloc | apply pw_below_drewN | apply below_drew1 | refine below_set ?_ GE139.out) | exact HB.out)⟩
          · rw [if_neg c12] at H
            have c12b0 : (t145 == 0) = false := beq_eq_false_iff_ne.mpr c12
            have c12b1 : (t145 != 0) = true := bne_iff_ne.mpr c12
            simp only [Option.some.injEq, Prod.mk.injEq] at H
            obtain ⟨rfl, rfl, rfl⟩ := H
            obtain ⟨i015, hi015, _, hsz15, _⟩ := info_parts info5
            obtain ⟨A15, hcut15, hA15, hC15⟩ := print_drop_of (P := Tryd.prog) (Value.int .u8) 0 35 5 .i64 Tryd.underlying35 hi015 hsz15 A1 c1 l1 2 (by omega) (of_decide_eq_true (by first | (with_reducible assumption) | assumption)) HC1.out
            have HR142 := Aside0.mk (Kd.C_of_reads (h1 := fun _ => rfl) (hA15 _ (Kd.reads_of_C HR1.out)))
            have HC142 := Aside0.mk hC15
            clear hA15 hC15 hi015 hsz15
            have hcz16_0 : wc.cell? ⟨gb139, 0, none⟩ = some (.bool a0_0) := (blk_cell BK139.out 0).trans rfl
            have hcz16_1 : wc.cell? ⟨gb139, 1, none⟩ = some (.bool a0_1) := (blk_cell BK139.out 1).trans rfl
            have hcz16_2 : wc.cell? ⟨gb139, 2, none⟩ = some (.bool a0_2) := (blk_cell BK139.out 2).trans rfl
            have hcz16_3 : wc.cell? ⟨gb139, 3, none⟩ = some (.bool a0_3) := (blk_cell BK139.out 3).trans rfl
            have hcz16_4 : wc.cell? ⟨gb139, 4, none⟩ = some (.int .u32 a0_4) := (blk_cell BK139.out 4).trans rfl
            have hcz16_5 : wc.cell? ⟨gb139, 5, none⟩ = some (.int .u32 a0_5) := (blk_cell BK139.out 5).trans rfl
            have hcz16_6 : wc.cell? ⟨gb139, 6, none⟩ = some (.int .i64 a0_6) := (blk_cell BK139.out 6).trans rfl
            have hfz16_0 := blk_frozen BK139.out 0
            have hfz16_1 := blk_frozen BK139.out 1
            have hfz16_2 := blk_frozen BK139.out 2
            have hfz16_3 := blk_frozen BK139.out 3
            have hfz16_4 := blk_frozen BK139.out 4
            have hfz16_5 := blk_frozen BK139.out 5
            have hfz16_6 := blk_frozen BK139.out 6
            go_wp2_with (first | (go_at_call 59; refine calls_of_args (args' := #[.slice A15 (l1.drop 2).length (c1 - 2), .bool a0_3]) (by first | (rw [show (l1.drop 2).length = (l1.length - 2) from List.length_drop] <;> rfl) |  rfl) ?_; (with_reducible refine (marlineref09_Get.calls _ _ (l1.drop 2) a0_3 t143 t144 t145 _ ?side1 ?side2 A11.out).mono ?_); (case side1 => repeat (first | exact (Kd.C_below HR142.out HB.out) | (with_reducible refine Kd.C_alloc ?_ _) | (with_reducible refine Kd.C_drewN ?_ _) | (with_reducible refine Kd.C_drew ?_))); (case side2 => exact HC142.out); rintro e w' ⟨rfl, ⟨nd, rfl⟩⟩; (try first | exact ⟨rfl, _, World.drewN_drewN _ _ _⟩ | exact ⟨rfl, _, Eq.trans (World.drewN_drewN _ _ _) (congrArg (World.drewN _) (Nat.add_assoc _ _ _))⟩)))
            repeat (go_quiet (first | (go_at_call 59; refine calls_of_args (args' := #[.slice A15 (l1.drop 2).length (c1 - 2), .bool a0_3]) (by first | (rw [show (l1.drop 2).length = (l1.length - 2) from List.length_drop] <;> rfl) |  rfl) ?_; (with_reducible refine (marlineref09_Get.calls _ _ (l1.drop 2) a0_3 t143 t144 t145 _ ?side1 ?side2 A11.out).mono ?_); (case side1 => repeat (first | exact (Kd.C_below HR142.out HB.out) | (with_reducible refine Kd.C_alloc ?_ _) | (with_reducible refine Kd.C_drewN ?_ _) | (with_reducible refine Kd.C_drew ?_))); (case side2 => exact HC142.out); rintro e w' ⟨rfl, ⟨nd, rfl⟩⟩; (try first | exact ⟨rfl, _, World.drewN_drewN _ _ _⟩ | exact ⟨rfl, _, Eq.trans (World.drewN_drewN _ _ _) (congrArg (World.drewN _) (Nat.add_assoc _ _ _))⟩))); try go_wp2_with (first | (go_at_call 59; refine calls_of_args (args' := #[.slice A15 (l1.drop 2).length (c1 - 2), .bool a0_3]) (by first | (rw [show (l1.drop 2).length = (l1.length - 2) from List.length_drop] <;> rfl) |  rfl) ?_; (with_reducible refine (marlineref09_Get.calls _ _ (l1.drop 2) a0_3 t143 t144 t145 _ ?side1 ?side2 A11.out).mono ?_); (case side1 => repeat (first | exact (Kd.C_below HR142.out HB.out) | (with_reducible refine Kd.C_alloc ?_ _) | (with_reducible refine Kd.C_drewN ?_ _) | (with_reducible refine Kd.C_drew ?_))); (case side2 => exact HC142.out); rintro e w' ⟨rfl, ⟨nd, rfl⟩⟩; (try first | exact ⟨rfl, _, World.drewN_drewN _ _ _⟩ | exact ⟨rfl, _, Eq.trans (World.drewN_drewN _ _ _) (congrArg (World.drewN _) (Nat.add_assoc _ _ _))⟩))))
            go_ret3
            exact ⟨by first | rfl | (simp [errW_none, errW_some] <;> rfl) | (simp [*, errW_none, errW_some] <;> rfl), by repeat (first | (with_reducible first | exact HB.out | apply below_alloc | apply pw_below_drewN | apply below_drew1 | refine below_set ?_ GE139.out) | exact HB.out)⟩
        · rw [if_neg c10] at H
          exact absurd H (by simp)
      · replace c9 := Bool.eq_false_iff.mpr c9
        subst c9
        have H1 : (if a0_2 = true then (if 0 ≤ 0 then (if 0 ≤ (l1.length : Int) then ((marlineref09_Get.f (l1.drop (0 : Int).toNat) a0_3).bind fun bt147 => (if bt147.2.2 = 0 then (some (bt147.1, wrap64 (0 + bt147.2.1), 0)) else (some (0, 0, 7)))) else (none)) else (none)) else (some (0, 0, 7))) = some (r1, r2, r3) := by rw [if_neg (show ¬ (false = true) by decide)] at H; exact H
        clear H
        have H := H1
        clear H1
        by_cases c17 : a0_2 = true
        · subst c17
          have H1 : (if 0 ≤ 0 then (if 0 ≤ (l1.length : Int) then ((marlineref09_Get.f (l1.drop (0 : Int).toNat) a0_3).bind fun bt147 => (if bt147.2.2 = 0 then (some (bt147.1, wrap64 (0 + bt147.2.1), 0)) else (some (0, 0, 7)))) else (none)) else (none)) = some (r1, r2, r3) := by rw [if_pos rfl] at H; exact H
          clear H
          have H := H1
          clear H1
          by_cases c18 : 0 ≤ 0
          · rw [if_pos c18] at H
            have c18b0 := eq_true c18
            have c18b1 : decide (0 ≤ 0) = true := decide_eq_true c18
            clear c18
            by_cases c19 : 0 ≤ (l1.length : Int)
            · rw [if_pos c19] at H
              have c19b0 := eq_true c19
              have c19b1 : decide (0 ≤ (l1.length : Int)) = true := decide_eq_true c19
              clear c19
              replace H := Option.bind_eq_some_iff.mp H
              obtain ⟨⟨t147, t148, t149⟩, A200, H⟩ := H
              replace H : (if t149 = 0 then (some (t147, wrap64 (0 + t148), 0)) else (some (0, 0, 7))) = some (r1, r2, r3) := H
              have A20 := Aside0.mk A200
              clear A200
              by_cases c21 : t149 = 0
              · rw [if_pos c21] at H
                have c21b0 : (t149 == 0) = true := beq_iff_eq.mpr c21
                have c21b1 : (t149 != 0) = false := bne_eq_false_iff_eq.mpr c21
                clear c21
                simp only [Option.some.injEq, Prod.mk.injEq] at H
                obtain ⟨rfl, rfl, rfl⟩ := H
                have hcz22_0 : wc.cell? ⟨gb139, 0, none⟩ = some (.bool a0_0) := (blk_cell BK139.out 0).trans rfl
                have hcz22_1 : wc.cell? ⟨gb139, 1, none⟩ = some (.bool a0_1) := (blk_cell BK139.out 1).trans rfl
                have hcz22_2 : wc.cell? ⟨gb139, 2, none⟩ = some (.bool true) := (blk_cell BK139.out 2).trans rfl
                have hcz22_3 : wc.cell? ⟨gb139, 3, none⟩ = some (.bool a0_3) := (blk_cell BK139.out 3).trans rfl
                have hcz22_4 : wc.cell? ⟨gb139, 4, none⟩ = some (.int .u32 a0_4) := (blk_cell BK139.out 4).trans rfl
                have hcz22_5 : wc.cell? ⟨gb139, 5, none⟩ = some (.int .u32 a0_5) := (blk_cell BK139.out 5).trans rfl
                have hcz22_6 : wc.cell? ⟨gb139, 6, none⟩ = some (.int .i64 a0_6) := (blk_cell BK139.out 6).trans rfl
                have hfz22_0 := blk_frozen BK139.out 0
                have hfz22_1 := blk_frozen BK139.out 1
                have hfz22_2 := blk_frozen BK139.out 2
                have hfz22_3 := blk_frozen BK139.out 3
                have hfz22_4 := blk_frozen BK139.out 4
                have hfz22_5 := blk_frozen BK139.out 5
                have hfz22_6 := blk_frozen BK139.out 6
                obtain ⟨i023, hi023, _, hsz23, _⟩ := info_parts info5
                obtain ⟨A23, hcut23, hA23, hC23⟩ := print_drop_of (P := Tryd.prog) (Value.int .u8) 0 35 5 .i64 Tryd.underlying35 hi023 hsz23 A1 c1 l1 0 (by omega) (of_decide_eq_true (by first | (with_reducible assumption) | assumption)) HC1.out
                have HR146 := Aside0.mk (Kd.C_of_reads (h1 := fun _ => rfl) (hA23 _ (Kd.reads_of_C HR1.out)))
                have HC146 := Aside0.mk hC23
                clear hA23 hC23 hi023 hsz23
                go_wp2_with (first | (go_at_call 59; refine calls_of_args (args' := #[.slice A23 (l1.drop (0 : Int).toNat).length (c1 - 0), .bool a0_3]) (by first | (rw [show (l1.drop (0 : Int).toNat).length = (l1.length - 0) from List.length_drop] <;> rfl) |  rfl) ?_; (with_reducible refine (marlineref09_Get.calls _ _ (l1.drop (0 : Int).toNat) a0_3 t147 t148 t149 _ ?side1 ?side2 A20.out).mono ?_); (case side1 => repeat (first | exact (Kd.C_below HR146.out HB.out) | (with_reducible refine Kd.C_alloc ?_ _) | (with_reducible refine Kd.C_drewN ?_ _) | (with_reducible refine Kd.C_drew ?_))); (case side2 => exact HC146.out); rintro e w' ⟨rfl, ⟨nd, rfl⟩⟩; (try first | exact ⟨rfl, _, World.drewN_drewN _ _ _⟩ | exact ⟨rfl, _, Eq.trans (World.drewN_drewN _ _ _) (congrArg (World.drewN _) (Nat.add_assoc _ _ _))⟩)))
                repeat (go_quiet (first | (go_at_call 59; refine calls_of_args (args' := #[.slice A23 (l1.drop (0 : Int).toNat).length (c1 - 0), .bool a0_3]) (by first | (rw [show (l1.drop (0 : Int).toNat).length = (l1.length - 0) from List.length_drop] <;> rfl) |  rfl) ?_; (with_reducible refine (marlineref09_Get.calls _ _ (l1.drop (0 : Int).toNat) a0_3 t147 t148 t149 _ ?side1 ?side2 A20.out).mono ?_); (case side1 => repeat (first | exact (Kd.C_below HR146.out HB.out) | (with_reducible refine Kd.C_alloc ?_ _) | (with_reducible refine Kd.C_drewN ?_ _) | (with_reducible refine Kd.C_drew ?_))); (case side2 => exact HC146.out); rintro e w' ⟨rfl, ⟨nd, rfl⟩⟩; (try first | exact ⟨rfl, _, World.drewN_drewN _ _ _⟩ | exact ⟨rfl, _, Eq.trans (World.drewN_drewN _ _ _) (congrArg (World.drewN _) (Nat.add_assoc _ _ _))⟩))); try go_wp2_with (first | (go_at_call 59; refine calls_of_args (args' := #[.slice A23 (l1.drop (0 : Int).toNat).length (c1 - 0), .bool a0_3]) (by first | (rw [show (l1.drop (0 : Int).toNat).length = (l1.length - 0) from List.length_drop] <;> rfl) |  rfl) ?_; (with_reducible refine (marlineref09_Get.calls _ _ (l1.drop (0 : Int).toNat) a0_3 t147 t148 t149 _ ?side1 ?side2 A20.out).mono ?_); (case side1 => repeat (first | exact (Kd.C_below HR146.out HB.out) | (with_reducible refine Kd.C_alloc ?_ _) | (with_reducible refine Kd.C_drewN ?_ _) | (with_reducible refine Kd.C_drew ?_))); (case side2 => exact HC146.out); rintro e w' ⟨rfl, ⟨nd, rfl⟩⟩; (try first | exact ⟨rfl, _, World.drewN_drewN _ _ _⟩ | exact ⟨rfl, _, Eq.trans (World.drewN_drewN _ _ _) (congrArg (World.drewN _) (Nat.add_assoc _ _ _))⟩))))
                go_ret3
                exact ⟨by first | rfl | (simp [errW_none, errW_some] <;> rfl) | (simp [*, errW_none, errW_some] <;> rfl), by repeat (first | (with_reducible first | exact HB.out | apply below_alloc | apply pw_below_drewN | apply below_drew1 | refine below_set ?_ GE139.out) | exact HB.out)⟩
              · rw [if_neg c21] at H
                have c21b0 : (t149 == 0) = false := beq_eq_false_iff_ne.mpr c21
                have c21b1 : (t149 != 0) = true := bne_iff_ne.mpr c21
                simp only [Option.some.injEq, Prod.mk.injEq] at H
                obtain ⟨rfl, rfl, rfl⟩ := H
                have hcz24_0 : wc.cell? ⟨gb139, 0, none⟩ = some (.bool a0_0) := (blk_cell BK139.out 0).trans rfl
                have hcz24_1 : wc.cell? ⟨gb139, 1, none⟩ = some (.bool a0_1) := (blk_cell BK139.out 1).trans rfl
                have hcz24_2 : wc.cell? ⟨gb139, 2, none⟩ = some (.bool true) := (blk_cell BK139.out 2).trans rfl
                have hcz24_3 : wc.cell? ⟨gb139, 3, none⟩ = some (.bool a0_3) := (blk_cell BK139.out 3).trans rfl
                have hcz24_4 : wc.cell? ⟨gb139, 4, none⟩ = some (.int .u32 a0_4) := (blk_cell BK139.out 4).trans rfl
                have hcz24_5 : wc.cell? ⟨gb139, 5, none⟩ = some (.int .u32 a0_5) := (blk_cell BK139.out 5).trans rfl
                have hcz24_6 : wc.cell? ⟨gb139, 6, none⟩ = some (.int .i64 a0_6) := (blk_cell BK139.out 6).trans rfl
                have hfz24_0 := blk_frozen BK139.out 0
                have hfz24_1 := blk_frozen BK139.out 1
                have hfz24_2 := blk_frozen BK139.out 2
                have hfz24_3 := blk_frozen BK139.out 3
                have hfz24_4 := blk_frozen BK139.out 4
                have hfz24_5 := blk_frozen BK139.out 5
                have hfz24_6 := blk_frozen BK139.out 6
                obtain ⟨i025, hi025, _, hsz25, _⟩ := info_parts info5
                obtain ⟨A25, hcut25, hA25, hC25⟩ := print_drop_of (P := Tryd.prog) (Value.int .u8) 0 35 5 .i64 Tryd.underlying35 hi025 hsz25 A1 c1 l1 0 (by omega) (of_decide_eq_true (by first | (with_reducible assumption) | assumption)) HC1.out
                have HR146 := Aside0.mk (Kd.C_of_reads (h1 := fun _ => rfl) (hA25 _ (Kd.reads_of_C HR1.out)))
                have HC146 := Aside0.mk hC25
                clear hA25 hC25 hi025 hsz25
                go_wp2_with (first | (go_at_call 59; refine calls_of_args (args' := #[.slice A25 (l1.drop (0 : Int).toNat).length (c1 - 0), .bool a0_3]) (by first | (rw [show (l1.drop (0 : Int).toNat).length = (l1.length - 0) from List.length_drop] <;> rfl) |  rfl) ?_; (with_reducible refine (marlineref09_Get.calls _ _ (l1.drop (0 : Int).toNat) a0_3 t147 t148 t149 _ ?side1 ?side2 A20.out).mono ?_); (case side1 => repeat (first | exact (Kd.C_below HR146.out HB.out) | (with_reducible refine Kd.C_alloc ?_ _) | (with_reducible refine Kd.C_drewN ?_ _) | (with_reducible refine Kd.C_drew ?_))); (case side2 => exact HC146.out); rintro e w' ⟨rfl, ⟨nd, rfl⟩⟩; (try first | exact ⟨rfl, _, World.drewN_drewN _ _ _⟩ | exact ⟨rfl, _, Eq.trans (World.drewN_drewN _ _ _) (congrArg (World.drewN _) (Nat.add_assoc _ _ _))⟩)))
                repeat (go_quiet (first | (go_at_call 59; refine calls_of_args (args' := #[.slice A25 (l1.drop (0 : Int).toNat).length (c1 - 0), .bool a0_3]) (by first | (rw [show (l1.drop (0 : Int).toNat).length = (l1.length - 0) from List.length_drop] <;> rfl) |  rfl) ?_; (with_reducible refine (marlineref09_Get.calls _ _ (l1.drop (0 : Int).toNat) a0_3 t147 t148 t149 _ ?side1 ?side2 A20.out).mono ?_); (case side1 => repeat (first | exact (Kd.C_below HR146.out HB.out) | (with_reducible refine Kd.C_alloc ?_ _) | (with_reducible refine Kd.C_drewN ?_ _) | (with_reducible refine Kd.C_drew ?_))); (case side2 => exact HC146.out); rintro e w' ⟨rfl, ⟨nd, rfl⟩⟩; (try first | exact ⟨rfl, _, World.drewN_drewN _ _ _⟩ | exact ⟨rfl, _, Eq.trans (World.drewN_drewN _ _ _) (congrArg (World.drewN _) (Nat.add_assoc _ _ _))⟩))); try go_wp2_with (first | (go_at_call 59; refine calls_of_args (args' := #[.slice A25 (l1.drop (0 : Int).toNat).length (c1 - 0), .bool a0_3]) (by first | (rw [show (l1.drop (0 : Int).toNat).length = (l1.length - 0) from List.length_drop] <;> rfl) |  rfl) ?_; (with_reducible refine (marlineref09_Get.calls _ _ (l1.drop (0 : Int).toNat) a0_3 t147 t148 t149 _ ?side1 ?side2 A20.out).mono ?_); (case side1 => repeat (first | exact (Kd.C_below HR146.out HB.out) | (with_reducible refine Kd.C_alloc ?_ _) | (with_reducible refine Kd.C_drewN ?_ _) | (with_reducible refine Kd.C_drew ?_))); (case side2 => exact HC146.out); rintro e w' ⟨rfl, ⟨nd, rfl⟩⟩; (try first | exact ⟨rfl, _, World.drewN_drewN _ _ _⟩ | exact ⟨rfl, _, Eq.trans (World.drewN_drewN _ _ _) (congrArg (World.drewN _) (Nat.add_assoc _ _ _))⟩))))
                go_ret3
                exact ⟨by first | rfl | (simp [errW_none, errW_some] <;> rfl) | (simp [*, errW_none, errW_some] <;> rfl), by repeat (first | (with_reducible first | exact HB.out | apply below_alloc | apply pw_below_drewN | apply below_drew1 | refine below_set ?_ GE139.out) | exact HB.out)⟩
            · rw [if_neg c19] at H
              exact absurd H (by simp)
          · rw [if_neg c18] at H
            exact absurd H (by simp)
        · replace c17 := Bool.eq_false_iff.mpr c17
          subst c17
          have H1 : (some (0, 0, 7)) = some (r1, r2, r3) := by rw [if_neg (show ¬ (false = true) by decide)] at H; exact H
          clear H
          have H := H1
          clear H1
          simp only [Option.some.injEq, Prod.mk.injEq] at H
          obtain ⟨rfl, rfl, rfl⟩ := H
          have hcz26_0 : wc.cell? ⟨gb139, 0, none⟩ = some (.bool a0_0) := (blk_cell BK139.out 0).trans rfl
          have hcz26_1 : wc.cell? ⟨gb139, 1, none⟩ = some (.bool a0_1) := (blk_cell BK139.out 1).trans rfl
          have hcz26_2 : wc.cell? ⟨gb139, 2, none⟩ = some (.bool false) := (blk_cell BK139.out 2).trans rfl
          have hcz26_3 : wc.cell? ⟨gb139, 3, none⟩ = some (.bool a0_3) := (blk_cell BK139.out 3).trans rfl
          have hcz26_4 : wc.cell? ⟨gb139, 4, none⟩ = some (.int .u32 a0_4) := (blk_cell BK139.out 4).trans rfl
          have hcz26_5 : wc.cell? ⟨gb139, 5, none⟩ = some (.int .u32 a0_5) := (blk_cell BK139.out 5).trans rfl
          have hcz26_6 : wc.cell? ⟨gb139, 6, none⟩ = some (.int .i64 a0_6) := (blk_cell BK139.out 6).trans rfl
          have hfz26_0 := blk_frozen BK139.out 0
          have hfz26_1 := blk_frozen BK139.out 1
          have hfz26_2 := blk_frozen BK139.out 2
          have hfz26_3 := blk_frozen BK139.out 3
          have hfz26_4 := blk_frozen BK139.out 4
          have hfz26_5 := blk_frozen BK139.out 5
          have hfz26_6 := blk_frozen BK139.out 6
          go_wp2
          repeat (go_quiet (fail); try go_wp2)
          go_ret3
          exact ⟨by first | rfl | (simp [errW_none, errW_some] <;> rfl) | (simp [*, errW_none, errW_some] <;> rfl), by repeat (first | (with_reducible first | exact HB.out | apply below_alloc | apply pw_below_drewN | apply below_drew1 | refine below_set ?_ GE139.out) | exact HB.out)⟩
def marlineref09_Put.f (a0 : Int) (a1 : Bool) : Option (List Int) := if a1 = true then (if a0 < 256 then (some (([(a0) % 256] : List Int))) else (some (([(wrap64 (Int.tdiv a0 256)) % 256, (Int.tmod a0 256) % 256] : List Int)))) else (some (([(wrap64 (Int.tdiv a0 256)) % 256, (Int.tmod a0 256) % 256] : List Int)))
set_option maxHeartbeats 8000000 in
set_option maxRecDepth 100000 in
theorem marlineref09_Put.calls (a0 : Int) (a1 : Bool) (r : List Int) (w : World) (h : marlineref09_Put.f a0 a1 = some r) :
    Calls Tryd.prog 61 #[.int .i64 a0, .bool a1] w fun e w' => ∃ v0_ : Value, e = .returned (v0_) ∧ Kd.R (Kd.int .u8) 5 w' w.heap.size (fun _ => True) v0_ r ∧ Below w.heap.size w w' := by
  have HB := Aside0.mk (Below.refl w.heap.size w)
  have H : (if a1 = true then (if a0 < 256 then (some (([(a0) % 256] : List Int))) else (some (([(wrap64 (Int.tdiv a0 256)) % 256, (Int.tmod a0 256) % 256] : List Int)))) else (some (([(wrap64 (Int.tdiv a0 256)) % 256, (Int.tmod a0 256) % 256] : List Int)))) = some r := h
  clear h
  by_cases c3 : a1 = true
  · subst c3
    have H1 : (if a0 < 256 then (some (([(a0) % 256] : List Int))) else (some (([(wrap64 (Int.tdiv a0 256)) % 256, (Int.tmod a0 256) % 256] : List Int)))) = some r := by rw [if_pos rfl] at H; exact H
    clear H
    have H := H1
    clear H1
    by_cases c4 : a0 < 256
    · rw [if_pos c4] at H
      have c4b0 : decide (a0 < 256) = true := decide_eq_true c4
      clear c4
      obtain ⟨y150, hy150⟩ : ∃ y_ : List Int, y_ = (([(a0) % 256] : List Int)) := ⟨_, rfl⟩
      replace H : (some y150) = some r := by first | (rw [hy150]; with_reducible exact H) | (have H2_ := (Option.bind_some _ _).symm.trans H; rw [hy150]; with_reducible exact H2_) | (have H2_ := (Option.bind_some _ _).symm.trans H; with_reducible exact H2_) | with_reducible exact H | (rw [hy150]; exact H) | exact H
      have Ny150 := Aside0.mk hy150
      clear hy150
      obtain rfl := Option.some.inj H
      go_enter Tryd.func61, Tryd.ntmps61
      go_wp2_with (first | ((with_reducible refine gate_dst (N := 12) rfl ?_); refine Kd.R_lit (Kd.int .u8) _ 5 ?hg (N := 12) ?hd (xs := ([(a0) % 256] : List Int)) (inner := [.int .u8 ((a0) % 256)]) (ok := fun _ => True) (okp := fun _ => True) ?hr ?hp (fun _ hk => hk) trivial (Below.refl _ _) (Nat.le_refl _) (by simp) ?_; (case hd => rfl); (case hg => rfl); (case hr => first | (go_simp; done) | (go_simp; rfl)); (case hp => exact (Reps.one (show Kd.M (Kd.int .u8) _ _ _ ((a0) % 256) [.int .u8 ((a0) % 256)] from rfl) (Reps.none _ _))); intro v151 w5 ho6 hb hg_ hnew_; clear hg_ hnew_; (first | rw [← Ny150.out] at ho6 | (simp only [Int.reduceToNat] at ho6; rw [← Ny150.out] at ho6)); have n0_ := Aside0.mk (Kd.R_lower ho6 (below_size (by repeat (first | (with_reducible first | exact HB.out | apply below_alloc | apply pw_below_drewN | apply below_drew1) | exact HB.out)))); have n1_ := Aside0.mk (below_step (by repeat (first | (with_reducible first | exact HB.out | apply below_alloc | apply pw_below_drewN | apply below_drew1) | exact HB.out)) hb); clear HB; have HO152 := n0_; have HB := n1_; clear n0_ n1_; clear hb ho6))
      go_ret
      exact ⟨_, by first | rfl | (simp [errW_none, errW_some] <;> rfl) | (simp [*, errW_none, errW_some] <;> rfl), by (with_reducible repeat (first | apply Kd.R_alloc | apply Kd.R_drewN | apply Kd.R_drew)); exact HO152.out, by repeat (first | (with_reducible first | exact HB.out | apply below_alloc | apply pw_below_drewN | apply below_drew1) | exact HB.out)⟩
    · rw [if_neg c4] at H
      have c4b0 : decide (a0 < 256) = false := decide_eq_false c4
      clear c4
      obtain ⟨y153, hy153⟩ : ∃ y_ : List Int, y_ = (([(wrap64 (Int.tdiv a0 256)) % 256, (Int.tmod a0 256) % 256] : List Int)) := ⟨_, rfl⟩
      replace H : (some y153) = some r := by first | (rw [hy153]; with_reducible exact H) | (have H2_ := (Option.bind_some _ _).symm.trans H; rw [hy153]; with_reducible exact H2_) | (have H2_ := (Option.bind_some _ _).symm.trans H; with_reducible exact H2_) | with_reducible exact H | (rw [hy153]; exact H) | exact H
      have Ny153 := Aside0.mk hy153
      clear hy153
      obtain rfl := Option.some.inj H
      go_enter Tryd.func61, Tryd.ntmps61
      go_wp2_with (first | ((with_reducible refine gate_dst (N := 19) rfl ?_); refine Kd.R_lit (Kd.int .u8) _ 5 ?hg (N := 19) ?hd (xs := ([(wrap64 (Int.tdiv a0 256)) % 256, (Int.tmod a0 256) % 256] : List Int)) (inner := [.int .u8 ((wrap64 (Int.tdiv a0 256)) % 256), .int .u8 ((Int.tmod a0 256) % 256)]) (ok := fun _ => True) (okp := fun _ => True) ?hr ?hp (fun _ hk => hk) trivial (Below.refl _ _) (Nat.le_refl _) (by simp) ?_; (case hd => rfl); (case hg => rfl); (case hr => first | (go_simp; done) | (go_simp; rfl)); (case hp => exact (Reps.one (show Kd.M (Kd.int .u8) _ _ _ ((wrap64 (Int.tdiv a0 256)) % 256) [.int .u8 ((wrap64 (Int.tdiv a0 256)) % 256)] from rfl) (Reps.one (show Kd.M (Kd.int .u8) _ _ _ ((Int.tmod a0 256) % 256) [.int .u8 ((Int.tmod a0 256) % 256)] from rfl) (Reps.none _ _)))); intro v154 w7 ho8 hb hg_ hnew_; clear hg_ hnew_; (first | rw [← Ny153.out] at ho8 | (simp only [Int.reduceToNat] at ho8; rw [← Ny153.out] at ho8)); have n0_ := Aside0.mk (Kd.R_lower ho8 (below_size (by repeat (first | (with_reducible first | exact HB.out | apply below_alloc | apply pw_below_drewN | apply below_drew1) | exact HB.out)))); have n1_ := Aside0.mk (below_step (by repeat (first | (with_reducible first | exact HB.out | apply below_alloc | apply pw_below_drewN | apply below_drew1) | exact HB.out)) hb); clear HB; have HO155 := n0_; have HB := n1_; clear n0_ n1_; clear hb ho8))
      go_ret
      exact ⟨_, by first | rfl | (simp [errW_none, errW_some] <;> rfl) | (simp [*, errW_none, errW_some] <;> rfl), by (with_reducible repeat (first | apply Kd.R_alloc | apply Kd.R_drewN | apply Kd.R_drew)); exact HO155.out, by repeat (first | (with_reducible first | exact HB.out | apply below_alloc | apply pw_below_drewN | apply below_drew1) | exact HB.out)⟩
  · replace c3 := Bool.eq_false_iff.mpr c3
    subst c3
    have H1 : (some (([(wrap64 (Int.tdiv a0 256)) % 256, (Int.tmod a0 256) % 256] : List Int))) = some r := by rw [if_neg (show ¬ (false = true) by decide)] at H; exact H
    clear H
    have H := H1
    clear H1
    obtain ⟨y156, hy156⟩ : ∃ y_ : List Int, y_ = (([(wrap64 (Int.tdiv a0 256)) % 256, (Int.tmod a0 256) % 256] : List Int)) := ⟨_, rfl⟩
    replace H : (some y156) = some r := by first | (rw [hy156]; with_reducible exact H) | (have H2_ := (Option.bind_some _ _).symm.trans H; rw [hy156]; with_reducible exact H2_) | (have H2_ := (Option.bind_some _ _).symm.trans H; with_reducible exact H2_) | with_reducible exact H | (rw [hy156]; exact H) | exact H
    have Ny156 := Aside0.mk hy156
    clear hy156
    obtain rfl := Option.some.inj H
    go_enter Tryd.func61, Tryd.ntmps61
    go_wp2_with (first | ((with_reducible refine gate_dst (N := 19) rfl ?_); refine Kd.R_lit (Kd.int .u8) _ 5 ?hg (N := 19) ?hd (xs := ([(wrap64 (Int.tdiv a0 256)) % 256, (Int.tmod a0 256) % 256] : List Int)) (inner := [.int .u8 ((wrap64 (Int.tdiv a0 256)) % 256), .int .u8 ((Int.tmod a0 256) % 256)]) (ok := fun _ => True) (okp := fun _ => True) ?hr ?hp (fun _ hk => hk) trivial (Below.refl _ _) (Nat.le_refl _) (by simp) ?_; (case hd => rfl); (case hg => rfl); (case hr => first | (go_simp; done) | (go_simp; rfl)); (case hp => exact (Reps.one (show Kd.M (Kd.int .u8) _ _ _ ((wrap64 (Int.tdiv a0 256)) % 256) [.int .u8 ((wrap64 (Int.tdiv a0 256)) % 256)] from rfl) (Reps.one (show Kd.M (Kd.int .u8) _ _ _ ((Int.tmod a0 256) % 256) [.int .u8 ((Int.tmod a0 256) % 256)] from rfl) (Reps.none _ _)))); intro v157 w9 ho10 hb hg_ hnew_; clear hg_ hnew_; (first | rw [← Ny156.out] at ho10 | (simp only [Int.reduceToNat] at ho10; rw [← Ny156.out] at ho10)); have n0_ := Aside0.mk (Kd.R_lower ho10 (below_size (by repeat (first | (with_reducible first | exact HB.out | apply below_alloc | apply pw_below_drewN | apply below_drew1) | exact HB.out)))); have n1_ := Aside0.mk (below_step (by repeat (first | (with_reducible first | exact HB.out | apply below_alloc | apply pw_below_drewN | apply below_drew1) | exact HB.out)) hb); clear HB; have HO158 := n0_; have HB := n1_; clear n0_ n1_; clear hb ho10))
    go_ret
    exact ⟨_, by first | rfl | (simp [errW_none, errW_some] <;> rfl) | (simp [*, errW_none, errW_some] <;> rfl), by (with_reducible repeat (first | apply Kd.R_alloc | apply Kd.R_drewN | apply Kd.R_drew)); exact HO158.out, by repeat (first | (with_reducible first | exact HB.out | apply below_alloc | apply pw_below_drewN | apply below_drew1) | exact HB.out)⟩
end Go.Proofs.YtggpejjfgphihaaDoor.H
end

section
namespace Go.Proofs.YtggpejjfgphihaaDoor.H
open Go.Proofs.YtggpejjfgphihaaDoor.Given Go.Proofs.YtggpejjfgphihaaDoor.D Go.RowKit Go.Proofs.YtggpejjfgphihaaDoorW.PrintWords Go.Proofs.YtggpejjfgphihaaDoorW.PrintLast Go.Proofs.YtggpejjfgphihaaDoorW.PrintMore
attribute [local go_sem] max2_int min2_int max_two min_two max_three min_three max_four min_four
set_option linter.unusedVariables false
set_option linter.unusedSimpArgs false
def marlineref10_Put.f (a0_0 : Bool) (a0_1 : Bool) (a0_2 : Bool) (a0_3 : Bool) (a0_4 : Int) (a0_5 : Int) (a0_6 : Int) (a1 : Int) : Option (List Int) := (some (([] : List Int) : List Int)).bind fun y160 => (if a0_2 = true then (if a1 = 49185 then ((some (([255, 3] : List Int) : List Int)).bind fun y163 => (if y160.length + y163.length < 140737488355328 then ((some (y160 ++ y163 : List Int)).bind fun y166 => (if a0_3 = true then ((marlineref09_Put.f a1 (a1 != 49185)).bind fun t169 => (if y166.length + t169.length < 140737488355328 then (some (y166 ++ t169)) else (none))) else ((marlineref09_Put.f a1 false).bind fun t175 => (if y166.length + t175.length < 140737488355328 then (some (y166 ++ t175)) else (none))))) else (none))) else (if a0_3 = true then ((marlineref09_Put.f a1 (a1 != 49185)).bind fun t181 => (if y160.length + t181.length < 140737488355328 then (some (y160 ++ t181)) else (none))) else ((marlineref09_Put.f a1 false).bind fun t187 => (if y160.length + t187.length < 140737488355328 then (some (y160 ++ t187)) else (none))))) else ((some (([255, 3] : List Int) : List Int)).bind fun y193 => (if y160.length + y193.length < 140737488355328 then ((some (y160 ++ y193 : List Int)).bind fun y196 => (if a0_3 = true then ((marlineref09_Put.f a1 (a1 != 49185)).bind fun t199 => (if y196.length + t199.length < 140737488355328 then (some (y196 ++ t199)) else (none))) else ((marlineref09_Put.f a1 false).bind fun t205 => (if y196.length + t205.length < 140737488355328 then (some (y196 ++ t205)) else (none))))) else (none))))
set_option maxHeartbeats 8000000 in
set_option maxRecDepth 100000 in
theorem marlineref10_Put.calls (a0_0 : Bool) (a0_1 : Bool) (a0_2 : Bool) (a0_3 : Bool) (a0_4 : Int) (a0_5 : Int) (a0_6 : Int) (a1 : Int) (r : List Int) (w : World) (h : marlineref10_Put.f a0_0 a0_1 a0_2 a0_3 a0_4 a0_5 a0_6 a1 = some r) :
    Calls Tryd.prog 33 #[.agg #[.bool a0_0, .bool a0_1, .bool a0_2, .bool a0_3, .int .u32 a0_4, .int .u32 a0_5, .int .i64 a0_6], .int .i64 a1] w fun e w' => ∃ v0_ : Value, e = .returned (v0_) ∧ Kd.R (Kd.int .u8) 5 w' w.heap.size (fun _ => True) v0_ r ∧ Below w.heap.size w w' := by
  have hu24 := Tryd.underlying24
  have HB := Aside0.mk (Below.refl w.heap.size w)
  have H : ((some (([] : List Int) : List Int)).bind fun y160 => (if a0_2 = true then (if a1 = 49185 then ((some (([255, 3] : List Int) : List Int)).bind fun y163 => (if y160.length + y163.length < 140737488355328 then ((some (y160 ++ y163 : List Int)).bind fun y166 => (if a0_3 = true then ((marlineref09_Put.f a1 (a1 != 49185)).bind fun t169 => (if y166.length + t169.length < 140737488355328 then (some (y166 ++ t169)) else (none))) else ((marlineref09_Put.f a1 false).bind fun t175 => (if y166.length + t175.length < 140737488355328 then (some (y166 ++ t175)) else (none))))) else (none))) else (if a0_3 = true then ((marlineref09_Put.f a1 (a1 != 49185)).bind fun t181 => (if y160.length + t181.length < 140737488355328 then (some (y160 ++ t181)) else (none))) else ((marlineref09_Put.f a1 false).bind fun t187 => (if y160.length + t187.length < 140737488355328 then (some (y160 ++ t187)) else (none))))) else ((some (([255, 3] : List Int) : List Int)).bind fun y193 => (if y160.length + y193.length < 140737488355328 then ((some (y160 ++ y193 : List Int)).bind fun y196 => (if a0_3 = true then ((marlineref09_Put.f a1 (a1 != 49185)).bind fun t199 => (if y196.length + t199.length < 140737488355328 then (some (y196 ++ t199)) else (none))) else ((marlineref09_Put.f a1 false).bind fun t205 => (if y196.length + t205.length < 140737488355328 then (some (y196 ++ t205)) else (none))))) else (none))))) = some r := h
  clear h
  obtain ⟨y160, hy160⟩ : ∃ y_ : List Int, y_ = (([] : List Int)) := ⟨_, rfl⟩
  replace H : (if a0_2 = true then (if a1 = 49185 then ((some (([255, 3] : List Int) : List Int)).bind fun y163 => (if y160.length + y163.length < 140737488355328 then ((some (y160 ++ y163 : List Int)).bind fun y166 => (if a0_3 = true then ((marlineref09_Put.f a1 (a1 != 49185)).bind fun t169 => (if y166.length + t169.length < 140737488355328 then (some (y166 ++ t169)) else (none))) else ((marlineref09_Put.f a1 false).bind fun t175 => (if y166.length + t175.length < 140737488355328 then (some (y166 ++ t175)) else (none))))) else (none))) else (if a0_3 = true then ((marlineref09_Put.f a1 (a1 != 49185)).bind fun t181 => (if y160.length + t181.length < 140737488355328 then (some (y160 ++ t181)) else (none))) else ((marlineref09_Put.f a1 false).bind fun t187 => (if y160.length + t187.length < 140737488355328 then (some (y160 ++ t187)) else (none))))) else ((some (([255, 3] : List Int) : List Int)).bind fun y193 => (if y160.length + y193.length < 140737488355328 then ((some (y160 ++ y193 : List Int)).bind fun y196 => (if a0_3 = true then ((marlineref09_Put.f a1 (a1 != 49185)).bind fun t199 => (if y196.length + t199.length < 140737488355328 then (some (y196 ++ t199)) else (none))) else ((marlineref09_Put.f a1 false).bind fun t205 => (if y196.length + t205.length < 140737488355328 then (some (y196 ++ t205)) else (none))))) else (none)))) = some r := by first | (rw [hy160]; with_reducible exact H) | (have H2_ := (Option.bind_some _ _).symm.trans H; rw [hy160]; with_reducible exact H2_) | (have H2_ := (Option.bind_some _ _).symm.trans H; with_reducible exact H2_) | with_reducible exact H | (rw [hy160]; exact H) | exact H
  have Ny160 := Aside0.mk hy160
  clear hy160
  by_cases c3 : a0_2 = true
  · subst c3
    have H1 : (if a1 = 49185 then ((some (([255, 3] : List Int) : List Int)).bind fun y163 => (if y160.length + y163.length < 140737488355328 then ((some (y160 ++ y163 : List Int)).bind fun y166 => (if a0_3 = true then ((marlineref09_Put.f a1 (a1 != 49185)).bind fun t169 => (if y166.length + t169.length < 140737488355328 then (some (y166 ++ t169)) else (none))) else ((marlineref09_Put.f a1 false).bind fun t175 => (if y166.length + t175.length < 140737488355328 then (some (y166 ++ t175)) else (none))))) else (none))) else (if a0_3 = true then ((marlineref09_Put.f a1 (a1 != 49185)).bind fun t181 => (if y160.length + t181.length < 140737488355328 then (some (y160 ++ t181)) else (none))) else ((marlineref09_Put.f a1 false).bind fun t187 => (if y160.length + t187.length < 140737488355328 then (some (y160 ++ t187)) else (none))))) = some r := by rw [if_pos rfl] at H; exact H
    clear H
    have H := H1
    clear H1
    by_cases c4 : a1 = 49185
    · rw [if_pos c4] at H
      have c4b0 : (a1 == 49185) = true := beq_iff_eq.mpr c4
      have c4b1 : (a1 != 49185) = false := bne_eq_false_iff_eq.mpr c4
      (try rw [c4b1] at H)
      clear c4
      obtain ⟨y163, hy163⟩ : ∃ y_ : List Int, y_ = (([255, 3] : List Int)) := ⟨_, rfl⟩
      replace H : (if y160.length + y163.length < 140737488355328 then ((some (y160 ++ y163 : List Int)).bind fun y166 => (if a0_3 = true then ((marlineref09_Put.f a1 false).bind fun t169 => (if y166.length + t169.length < 140737488355328 then (some (y166 ++ t169)) else (none))) else ((marlineref09_Put.f a1 false).bind fun t175 => (if y166.length + t175.length < 140737488355328 then (some (y166 ++ t175)) else (none))))) else (none)) = some r := by first | (rw [hy163]; with_reducible exact H) | (have H2_ := (Option.bind_some _ _).symm.trans H; rw [hy163]; with_reducible exact H2_) | (have H2_ := (Option.bind_some _ _).symm.trans H; with_reducible exact H2_) | with_reducible exact H | (rw [hy163]; exact H) | exact H
      have Ny163 := Aside0.mk hy163
      clear hy163
      by_cases c5 : y160.length + y163.length < 140737488355328
      · rw [if_pos c5] at H
        have LMc5 := Aside0.mk c5
        clear c5
        obtain ⟨y166, hy166⟩ : ∃ y_ : List Int, y_ = (y160 ++ y163) := ⟨_, rfl⟩
        replace H : (if a0_3 = true then ((marlineref09_Put.f a1 false).bind fun t169 => (if y166.length + t169.length < 140737488355328 then (some (y166 ++ t169)) else (none))) else ((marlineref09_Put.f a1 false).bind fun t175 => (if y166.length + t175.length < 140737488355328 then (some (y166 ++ t175)) else (none)))) = some r := by first | (rw [hy166]; with_reducible exact H) | (have H2_ := (Option.bind_some _ _).symm.trans H; rw [hy166]; with_reducible exact H2_) | (have H2_ := (Option.bind_some _ _).symm.trans H; with_reducible exact H2_) | with_reducible exact H | (rw [hy166]; exact H) | exact H
        have Ny166 := Aside0.mk hy166
        clear hy166
        by_cases c6 : a0_3 = true
        · subst c6
          have H1 : ((marlineref09_Put.f a1 false).bind fun t169 => (if y166.length + t169.length < 140737488355328 then (some (y166 ++ t169)) else (none))) = some r := by rw [if_pos rfl] at H; exact H
          clear H
          have H := H1
          clear H1
          replace H := Option.bind_eq_some_iff.mp H
          obtain ⟨t169, A70, H⟩ := H
          replace H : (if y166.length + t169.length < 140737488355328 then (some (y166 ++ t169)) else (none)) = some r := H
          have A7 := Aside0.mk A70
          clear A70
          by_cases c8 : y166.length + t169.length < 140737488355328
          · rw [if_pos c8] at H
            have LMc8 := Aside0.mk c8
            clear c8
            obtain ⟨y172, hy172⟩ : ∃ y_ : List Int, y_ = (y166 ++ t169) := ⟨_, rfl⟩
            replace H : (some y172) = some r := by first | (rw [hy172]; with_reducible exact H) | (have H2_ := (Option.bind_some _ _).symm.trans H; rw [hy172]; with_reducible exact H2_) | (have H2_ := (Option.bind_some _ _).symm.trans H; with_reducible exact H2_) | with_reducible exact H | (rw [hy172]; exact H) | exact H
            have Ny172 := Aside0.mk hy172
            clear hy172
            obtain rfl := Option.some.inj H
            go_enter Tryd.func33, Tryd.ntmps33
            go_wp2_with (first | ((with_reducible refine gate_dst (N := 2) rfl ?_); refine box_event ?hg (N := 2) ?hd (cs := #[.bool a0_0, .bool a0_1, .bool true, .bool true, .int .u32 a0_4, .int .u32 a0_5, .int .i64 a0_6]) (t := 24) ?hr ?_; (case hd => rfl); (case hg => rfl); (case hr => first | (go_simp; done) | (go_simp; rfl)); intro gb159 hg w9 hbox hb; have n0_ := Aside0.mk (below_step (by repeat (first | (with_reducible first | exact HB.out | apply below_alloc | apply pw_below_drewN | apply below_drew1) | exact HB.out)) hb); have n1_ := Aside0.mk (hbox); have n2_ := Aside0.mk ((by rw [hg]; exact (below_size (by repeat (first | (with_reducible first | exact HB.out | apply below_alloc | apply pw_below_drewN | apply below_drew1) | exact HB.out))) : w.heap.size ≤ gb159)); have n3_ := Aside0.mk ((by rw [hg]; exact (below_size (by repeat (first | (with_reducible first | exact HB.out | apply below_alloc | apply pw_below_drewN | apply below_drew1) | exact HB.out))) : w.heap.size ≤ gb159)); clear HB; have HB := n0_; have BK159 := n1_; have GW159 := n2_; have GE159 := n3_; clear n0_ n1_ n2_ n3_; clear hb hbox hg) | ((with_reducible refine gate_dst (N := 6) rfl ?_); refine Kd.R_lit (Kd.int .u8) _ 5 ?hg (N := 6) ?hd (xs := ([] : List Int)) (inner := []) (ok := fun _ => True) (okp := fun _ => True) ?hr ?hp (fun _ hk => hk) trivial (Below.refl _ _) (Nat.le_refl _) (by simp) ?_; (case hd => rfl); (case hg => rfl); (case hr => first | (go_simp; done) | (go_simp; rfl)); (case hp => exact (Reps.none _ _)); intro v161 w10 ho11 hb hg_ hnew_; clear hg_ hnew_; (first | rw [← Ny160.out] at ho11 | (simp only [Int.reduceToNat] at ho11; rw [← Ny160.out] at ho11)); have n0_ := Aside0.mk (Kd.R_lower ho11 (below_size (by repeat (first | (with_reducible first | exact HB.out | apply below_alloc | apply pw_below_drewN | apply below_drew1 | refine below_set ?_ GE159.out) | exact HB.out)))); have n1_ := Aside0.mk (blk_below (g := gb159) (o := .cells #[.bool a0_0, .bool a0_1, .bool true, .bool true, .int .u32 a0_4, .int .u32 a0_5, .int .i64 a0_6] 24 (0, 0)) (by (with_reducible repeat (first | refine blk_drewN ?_ _ | refine blk_drew ?_ | refine blk_alloc ?_ _)); exact BK159.out) hb); have n2_ := Aside0.mk (below_step (by repeat (first | (with_reducible first | exact HB.out | apply below_alloc | apply pw_below_drewN | apply below_drew1 | refine below_set ?_ GE159.out) | exact HB.out)) hb); clear BK159; clear HB; have HO162 := n0_; have BK159 := n1_; have HB := n2_; clear n0_ n1_ n2_; clear hb ho11; have hcz12_0 : w10.cell? ⟨gb159, 0, none⟩ = some (.bool a0_0) := (blk_cell BK159.out 0).trans rfl; have hcz12_1 : w10.cell? ⟨gb159, 1, none⟩ = some (.bool a0_1) := (blk_cell BK159.out 1).trans rfl; have hcz12_2 : w10.cell? ⟨gb159, 2, none⟩ = some (.bool true) := (blk_cell BK159.out 2).trans rfl; have hcz12_3 : w10.cell? ⟨gb159, 3, none⟩ = some (.bool true) := (blk_cell BK159.out 3).trans rfl; have hcz12_4 : w10.cell? ⟨gb159, 4, none⟩ = some (.int .u32 a0_4) := (blk_cell BK159.out 4).trans rfl; have hcz12_5 : w10.cell? ⟨gb159, 5, none⟩ = some (.int .u32 a0_5) := (blk_cell BK159.out 5).trans rfl; have hcz12_6 : w10.cell? ⟨gb159, 6, none⟩ = some (.int .i64 a0_6) := (blk_cell BK159.out 6).trans rfl; have hfz12_0 := blk_frozen BK159.out 0; have hfz12_1 := blk_frozen BK159.out 1; have hfz12_2 := blk_frozen BK159.out 2; have hfz12_3 := blk_frozen BK159.out 3; have hfz12_4 := blk_frozen BK159.out 4; have hfz12_5 := blk_frozen BK159.out 5; have hfz12_6 := blk_frozen BK159.out 6) | ((with_reducible refine gate_dst (N := 15) rfl ?_); refine Kd.R_lit (Kd.int .u8) _ 5 ?hg (N := 15) ?hd (xs := ([255, 3] : List Int)) (inner := [.int .u8 255, .int .u8 3]) (ok := fun _ => True) (okp := fun _ => True) ?hr ?hp (fun _ hk => hk) trivial (Below.refl _ _) (Nat.le_refl _) (by simp) ?_; (case hd => rfl); (case hg => rfl); (case hr => first | (go_simp; done) | (go_simp; rfl)); (case hp => exact (Reps.one (show Kd.M (Kd.int .u8) _ _ _ 255 [.int .u8 255] from rfl) (Reps.one (show Kd.M (Kd.int .u8) _ _ _ 3 [.int .u8 3] from rfl) (Reps.none _ _)))); intro v164 w13 ho14 hb hg_ hnew_; clear hg_ hnew_; (first | rw [← Ny163.out] at ho14 | (simp only [Int.reduceToNat] at ho14; rw [← Ny163.out] at ho14)); have n0_ := Aside0.mk (Kd.R_elder' (by (with_reducible repeat (first | apply Kd.R_alloc | apply Kd.R_drewN | apply Kd.R_drew)); exact HO162.out) (Kd.R_base ho14) hb); have n1_ := Aside0.mk (Kd.R_lower (Kd.R_new' ho14 (Kd.R_lt (by (with_reducible repeat (first | apply Kd.R_alloc | apply Kd.R_drewN | apply Kd.R_drew)); exact HO162.out))) (below_size (by repeat (first | (with_reducible first | exact HB.out | apply below_alloc | apply pw_below_drewN | apply below_drew1 | refine below_set ?_ GE159.out) | exact HB.out)))); have n2_ := Aside0.mk (blk_below (g := gb159) (o := .cells #[.bool a0_0, .bool a0_1, .bool true, .bool true, .int .u32 a0_4, .int .u32 a0_5, .int .i64 a0_6] 24 (0, 0)) (by (with_reducible repeat (first | refine blk_drewN ?_ _ | refine blk_drew ?_ | refine blk_alloc ?_ _)); exact BK159.out) hb); have n3_ := Aside0.mk (below_step (by repeat (first | (with_reducible first | exact HB.out | apply below_alloc | apply pw_below_drewN | apply below_drew1 | refine below_set ?_ GE159.out) | exact HB.out)) hb); clear HO162; clear BK159; clear HB; have HO162 := n0_; have HO165 := n1_; have BK159 := n2_; have HB := n3_; clear n0_ n1_ n2_ n3_; clear hb ho14; obtain ⟨Ao16, co16, eo16⟩ := Kd.R_slice HO165.out; subst eo16) | ((with_reducible refine gate_builtin (b := .append) (xs := #[.tmp 14, .tmp 15]) rfl ?_); at_builtin; refine Kd.R_append_rows (Kd.int .u8) (w0 := w) w.heap.size rfl (.tmp 14) (.tmp 15) 35 5 (.int .u8 0) 1 rfl Tryd.underlying35 info5 rfl (by decide) (by omega) v161 y160 y163 _ _ _ (fun k_ => some k_ ≠ (.slice Ao16 y163.length co16 : Value).ownBlock) (fun _ => False) rfl rfl ?aO ?aR (fun _ _ h => h) (fun _ h => h.elim) ?aF ?aB ?aS ?aL ?_; (case aR => repeat (first | exact (Kd.R_reads' HO165.out).2.2 | (with_reducible refine Kd.C_alloc ?_ _) | (with_reducible refine Kd.C_drewN ?_ _) | (with_reducible refine Kd.C_drew ?_))); (case aB => exact (by repeat (first | (with_reducible first | exact HB.out | apply below_alloc | apply pw_below_drewN | apply below_drew1 | refine below_set ?_ GE159.out) | exact HB.out))); (case aF => exact (fun k_ hk => Kd.fresh' (Kd.R_lt (by (with_reducible repeat (first | apply Kd.R_alloc | apply Kd.R_drewN | apply Kd.R_drew)); exact HO165.out)) k_ hk)); (case aO => exact (by (with_reducible repeat (first | apply Kd.R_alloc | apply Kd.R_drewN | apply Kd.R_drew)); exact Kd.R_mono HO162.out (fun _ hk => hk.2))); (case aS => exact (below_size (by repeat (first | (with_reducible first | exact HB.out | apply below_alloc | apply pw_below_drewN | apply below_drew1 | refine below_set ?_ GE159.out) | exact HB.out)))); (case aL => have := LMc5.out; omega); intro v167 w15 ho hb hg hat; rw [← Ny166.out] at ho; have n0_ := Aside0.mk (blk_grown (g := gb159) (o := .cells #[.bool a0_0, .bool a0_1, .bool true, .bool true, .int .u32 a0_4, .int .u32 a0_5, .int .i64 a0_6] 24 (0, 0)) (by (with_reducible repeat (first | refine blk_drewN ?_ _ | refine blk_drew ?_ | refine blk_alloc ?_ _)); exact BK159.out) hg (Kd.R_ne HO162.out BK159.out (by decide))); have n1_ := Aside0.mk (Kd.R_after (ok := (fun _ => True)) (by (with_reducible repeat (first | apply Kd.R_alloc | apply Kd.R_drewN | apply Kd.R_drew)); exact HO165.out) hg hat); have n2_ := Aside0.mk (hb); have n3_ := Aside0.mk (ho); clear BK159; clear HO165; clear HB; clear HO162; have BK159 := n0_; have HO165 := n1_; have HB := n2_; have HO168 := n3_; clear n0_ n1_ n2_ n3_; clear ho hb hg hat; have hcz17_0 : w15.cell? ⟨gb159, 0, none⟩ = some (.bool a0_0) := (blk_cell BK159.out 0).trans rfl; have hcz17_1 : w15.cell? ⟨gb159, 1, none⟩ = some (.bool a0_1) := (blk_cell BK159.out 1).trans rfl; have hcz17_2 : w15.cell? ⟨gb159, 2, none⟩ = some (.bool true) := (blk_cell BK159.out 2).trans rfl; have hcz17_3 : w15.cell? ⟨gb159, 3, none⟩ = some (.bool true) := (blk_cell BK159.out 3).trans rfl; have hcz17_4 : w15.cell? ⟨gb159, 4, none⟩ = some (.int .u32 a0_4) := (blk_cell BK159.out 4).trans rfl; have hcz17_5 : w15.cell? ⟨gb159, 5, none⟩ = some (.int .u32 a0_5) := (blk_cell BK159.out 5).trans rfl; have hcz17_6 : w15.cell? ⟨gb159, 6, none⟩ = some (.int .i64 a0_6) := (blk_cell BK159.out 6).trans rfl; have hfz17_0 := blk_frozen BK159.out 0; have hfz17_1 := blk_frozen BK159.out 1; have hfz17_2 := blk_frozen BK159.out 2; have hfz17_3 := blk_frozen BK159.out 3; have hfz17_4 := blk_frozen BK159.out 4; have hfz17_5 := blk_frozen BK159.out 5; have hfz17_6 := blk_frozen BK159.out 6) | ((with_reducible refine gate_callee (f := 61) rfl ?_); refine goesL_ (some 25) rfl rfl Tryd.func61 (by kernel_rfl) rfl #[.int .i64 a1, .bool false] rfl (by (try simp only [List.map_toArray, List.map_cons, List.map_nil]); first | done | rfl | (simp only [List.length_drop, List.length_take]; rfl)) ?_; (with_reducible refine (marlineref09_Put.calls a1 false t169 _ A7.out).mono ?_); rintro e w18 ⟨v170, rfl, ho0, hb⟩; refine ⟨_, rfl, ?_⟩; have n0_ := Aside0.mk (Kd.R_elder' (by (with_reducible repeat (first | apply Kd.R_alloc | apply Kd.R_drewN | apply Kd.R_drew)); exact HO165.out) (Kd.R_base ho0) hb); have n1_ := Aside0.mk (Kd.R_elder' (by (with_reducible repeat (first | apply Kd.R_alloc | apply Kd.R_drewN | apply Kd.R_drew)); exact HO168.out) (Kd.R_base ho0) hb); have n2_ := Aside0.mk (Kd.R_lower (Kd.R_new' (Kd.R_new' ho0 (Kd.R_lt (by (with_reducible repeat (first | apply Kd.R_alloc | apply Kd.R_drewN | apply Kd.R_drew)); exact HO165.out))) (Kd.R_lt (by (with_reducible repeat (first | apply Kd.R_alloc | apply Kd.R_drewN | apply Kd.R_drew)); exact HO168.out))) (below_size (by repeat (first | (with_reducible first | exact HB.out | apply below_alloc | apply pw_below_drewN | apply below_drew1 | refine below_set ?_ GE159.out) | exact HB.out)))); have n3_ := Aside0.mk (blk_below (g := gb159) (o := .cells #[.bool a0_0, .bool a0_1, .bool true, .bool true, .int .u32 a0_4, .int .u32 a0_5, .int .i64 a0_6] 24 (0, 0)) (by (with_reducible repeat (first | refine blk_drewN ?_ _ | refine blk_drew ?_ | refine blk_alloc ?_ _)); exact BK159.out) hb); have n4_ := Aside0.mk (below_step (by repeat (first | (with_reducible first | exact HB.out | apply below_alloc | apply pw_below_drewN | apply below_drew1 | refine below_set ?_ GE159.out) | exact HB.out)) hb); clear HO165; clear HO168; clear BK159; clear HB; have HO165 := n0_; have HO168 := n1_; have HO171 := n2_; have BK159 := n3_; have HB := n4_; clear n0_ n1_ n2_ n3_ n4_; (try clear hb); (try clear hb2); (try clear hk); (try clear hi); (try clear ho0); obtain ⟨Ao20, co20, eo20⟩ := Kd.R_slice HO171.out; subst eo20) | ((with_reducible refine gate_builtin (b := .append) (xs := #[.tmp 17, .tmp 25]) rfl ?_); at_builtin; refine Kd.R_append_rows (Kd.int .u8) (w0 := w) w.heap.size rfl (.tmp 17) (.tmp 25) 35 5 (.int .u8 0) 1 rfl Tryd.underlying35 info5 rfl (by decide) (by omega) v167 y166 t169 _ _ _ (fun k_ => some k_ ≠ (.slice Ao16 y163.length co16 : Value).ownBlock ∧ some k_ ≠ (.slice Ao20 t169.length co20 : Value).ownBlock) (fun _ => False) rfl rfl ?aO ?aR (fun _ _ h => h) (fun _ h => h.elim) ?aF ?aB ?aS ?aL ?_; (case aR => repeat (first | exact (Kd.R_reads' HO171.out).2.2 | (with_reducible refine Kd.C_alloc ?_ _) | (with_reducible refine Kd.C_drewN ?_ _) | (with_reducible refine Kd.C_drew ?_))); (case aB => exact (by repeat (first | (with_reducible first | exact HB.out | apply below_alloc | apply pw_below_drewN | apply below_drew1 | refine below_set ?_ GE159.out) | exact HB.out))); (case aF => exact (fun k_ hk => ⟨Kd.fresh' (Kd.R_lt (by (with_reducible repeat (first | apply Kd.R_alloc | apply Kd.R_drewN | apply Kd.R_drew)); exact HO165.out)) k_ hk, Kd.fresh' (Kd.R_lt (by (with_reducible repeat (first | apply Kd.R_alloc | apply Kd.R_drewN | apply Kd.R_drew)); exact HO171.out)) k_ hk⟩)); (case aO => exact (by (with_reducible repeat (first | apply Kd.R_alloc | apply Kd.R_drewN | apply Kd.R_drew)); exact HO168.out)); (case aS => exact (below_size (by repeat (first | (with_reducible first | exact HB.out | apply below_alloc | apply pw_below_drewN | apply below_drew1 | refine below_set ?_ GE159.out) | exact HB.out)))); (case aL => have := LMc8.out; omega); intro v173 w19 ho hb hg hat; rw [← Ny172.out] at ho; have n0_ := Aside0.mk (blk_grown (g := gb159) (o := .cells #[.bool a0_0, .bool a0_1, .bool true, .bool true, .int .u32 a0_4, .int .u32 a0_5, .int .i64 a0_6] 24 (0, 0)) (by (with_reducible repeat (first | refine blk_drewN ?_ _ | refine blk_drew ?_ | refine blk_alloc ?_ _)); exact BK159.out) hg (Kd.R_ne HO168.out BK159.out (by decide))); have n1_ := Aside0.mk (Kd.R_after (ok := (fun k_ => some k_ ≠ (.slice Ao20 t169.length co20 : Value).ownBlock)) (by (with_reducible repeat (first | apply Kd.R_alloc | apply Kd.R_drewN | apply Kd.R_drew)); exact Kd.R_mono HO165.out (fun _ hk => ⟨hk.2, hk.1.2⟩)) hg hat); have n2_ := Aside0.mk (Kd.R_after (ok := (fun k_ => some k_ ≠ (.slice Ao16 y163.length co16 : Value).ownBlock)) (by (with_reducible repeat (first | apply Kd.R_alloc | apply Kd.R_drewN | apply Kd.R_drew)); exact Kd.R_mono HO171.out (fun _ hk => ⟨hk.1.2, hk.2⟩)) hg hat); have n3_ := Aside0.mk (hb); have n4_ := Aside0.mk (ho); clear BK159; clear HO165; clear HO171; clear HB; clear HO168; have BK159 := n0_; have HO165 := n1_; have HO171 := n2_; have HB := n3_; have HO174 := n4_; clear n0_ n1_ n2_ n3_ n4_; clear ho hb hg hat))
            go_ret
            exact ⟨_, by first | rfl | (simp [errW_none, errW_some] <;> rfl) | (simp [*, errW_none, errW_some] <;> rfl), by (with_reducible repeat (first | apply Kd.R_alloc | apply Kd.R_drewN | apply Kd.R_drew)); exact Kd.R_mono HO174.out (fun _ hk => trivial), by repeat (first | (with_reducible first | exact HB.out | apply below_alloc | apply pw_below_drewN | apply below_drew1 | refine below_set ?_ GE159.out) | exact HB.out)⟩
          · rw [if_neg c8] at H
            exact absurd H (by simp)
        · replace c6 := Bool.eq_false_iff.mpr c6
          subst c6
          have H1 : ((marlineref09_Put.f a1 false).bind fun t175 => (if y166.length + t175.length < 140737488355328 then (some (y166 ++ t175)) else (none))) = some r := by rw [if_neg (show ¬ (false = true) by decide)] at H; exact H
          clear H
          have H := H1
          clear H1
          replace H := Option.bind_eq_some_iff.mp H
          obtain ⟨t175, A210, H⟩ := H
          replace H : (if y166.length + t175.length < 140737488355328 then (some (y166 ++ t175)) else (none)) = some r := H
          have A21 := Aside0.mk A210
          clear A210
          by_cases c22 : y166.length + t175.length < 140737488355328
          · rw [if_pos c22] at H
            have LMc22 := Aside0.mk c22
            clear c22
            obtain ⟨y178, hy178⟩ : ∃ y_ : List Int, y_ = (y166 ++ t175) := ⟨_, rfl⟩
            replace H : (some y178) = some r := by first | (rw [hy178]; with_reducible exact H) | (have H2_ := (Option.bind_some _ _).symm.trans H; rw [hy178]; with_reducible exact H2_) | (have H2_ := (Option.bind_some _ _).symm.trans H; with_reducible exact H2_) | with_reducible exact H | (rw [hy178]; exact H) | exact H
            have Ny178 := Aside0.mk hy178
            clear hy178
            obtain rfl := Option.some.inj H
            go_enter Tryd.func33, Tryd.ntmps33
            go_wp2_with (first | ((with_reducible refine gate_dst (N := 2) rfl ?_); refine box_event ?hg (N := 2) ?hd (cs := #[.bool a0_0, .bool a0_1, .bool true, .bool false, .int .u32 a0_4, .int .u32 a0_5, .int .i64 a0_6]) (t := 24) ?hr ?_; (case hd => rfl); (case hg => rfl); (case hr => first | (go_simp; done) | (go_simp; rfl)); intro gb159 hg w23 hbox hb; have n0_ := Aside0.mk (below_step (by repeat (first | (with_reducible first | exact HB.out | apply below_alloc | apply pw_below_drewN | apply below_drew1) | exact HB.out)) hb); have n1_ := Aside0.mk (hbox); have n2_ := Aside0.mk ((by rw [hg]; exact (below_size (by repeat (first | (with_reducible first | exact HB.out | apply below_alloc | apply pw_below_drewN | apply below_drew1) | exact HB.out))) : w.heap.size ≤ gb159)); have n3_ := Aside0.mk ((by rw [hg]; exact (below_size (by repeat (first | (with_reducible first | exact HB.out | apply below_alloc | apply pw_below_drewN | apply below_drew1) | exact HB.out))) : w.heap.size ≤ gb159)); clear HB; have HB := n0_; have BK159 := n1_; have GW159 := n2_; have GE159 := n3_; clear n0_ n1_ n2_ n3_; clear hb hbox hg) | ((with_reducible refine gate_dst (N := 6) rfl ?_); refine Kd.R_lit (Kd.int .u8) _ 5 ?hg (N := 6) ?hd (xs := ([] : List Int)) (inner := []) (ok := fun _ => True) (okp := fun _ => True) ?hr ?hp (fun _ hk => hk) trivial (Below.refl _ _) (Nat.le_refl _) (by simp) ?_; (case hd => rfl); (case hg => rfl); (case hr => first | (go_simp; done) | (go_simp; rfl)); (case hp => exact (Reps.none _ _)); intro v161 w24 ho25 hb hg_ hnew_; clear hg_ hnew_; (first | rw [← Ny160.out] at ho25 | (simp only [Int.reduceToNat] at ho25; rw [← Ny160.out] at ho25)); have n0_ := Aside0.mk (Kd.R_lower ho25 (below_size (by repeat (first | (with_reducible first | exact HB.out | apply below_alloc | apply pw_below_drewN | apply below_drew1 | refine below_set ?_ GE159.out) | exact HB.out)))); have n1_ := Aside0.mk (blk_below (g := gb159) (o := .cells #[.bool a0_0, .bool a0_1, .bool true, .bool false, .int .u32 a0_4, .int .u32 a0_5, .int .i64 a0_6] 24 (0, 0)) (by (with_reducible repeat (first | refine blk_drewN ?_ _ | refine blk_drew ?_ | refine blk_alloc ?_ _)); exact BK159.out) hb); have n2_ := Aside0.mk (below_step (by repeat (first | (with_reducible first | exact HB.out | apply below_alloc | apply pw_below_drewN | apply below_drew1 | refine below_set ?_ GE159.out) | exact HB.out)) hb); clear BK159; clear HB; have HO162 := n0_; have BK159 := n1_; have HB := n2_; clear n0_ n1_ n2_; clear hb ho25; have hcz26_0 : w24.cell? ⟨gb159, 0, none⟩ = some (.bool a0_0) := (blk_cell BK159.out 0).trans rfl; have hcz26_1 : w24.cell? ⟨gb159, 1, none⟩ = some (.bool a0_1) := (blk_cell BK159.out 1).trans rfl; have hcz26_2 : w24.cell? ⟨gb159, 2, none⟩ = some (.bool true) := (blk_cell BK159.out 2).trans rfl; have hcz26_3 : w24.cell? ⟨gb159, 3, none⟩ = some (.bool false) := (blk_cell BK159.out 3).trans rfl; have hcz26_4 : w24.cell? ⟨gb159, 4, none⟩ = some (.int .u32 a0_4) := (blk_cell BK159.out 4).trans rfl; have hcz26_5 : w24.cell? ⟨gb159, 5, none⟩ = some (.int .u32 a0_5) := (blk_cell BK159.out 5).trans rfl; have hcz26_6 : w24.cell? ⟨gb159, 6, none⟩ = some (.int .i64 a0_6) := (blk_cell BK159.out 6).trans rfl; have hfz26_0 := blk_frozen BK159.out 0; have hfz26_1 := blk_frozen BK159.out 1; have hfz26_2 := blk_frozen BK159.out 2; have hfz26_3 := blk_frozen BK159.out 3; have hfz26_4 := blk_frozen BK159.out 4; have hfz26_5 := blk_frozen BK159.out 5; have hfz26_6 := blk_frozen BK159.out 6) | ((with_reducible refine gate_dst (N := 15) rfl ?_); refine Kd.R_lit (Kd.int .u8) _ 5 ?hg (N := 15) ?hd (xs := ([255, 3] : List Int)) (inner := [.int .u8 255, .int .u8 3]) (ok := fun _ => True) (okp := fun _ => True) ?hr ?hp (fun _ hk => hk) trivial (Below.refl _ _) (Nat.le_refl _) (by simp) ?_; (case hd => rfl); (case hg => rfl); (case hr => first | (go_simp; done) | (go_simp; rfl)); (case hp => exact (Reps.one (show Kd.M (Kd.int .u8) _ _ _ 255 [.int .u8 255] from rfl) (Reps.one (show Kd.M (Kd.int .u8) _ _ _ 3 [.int .u8 3] from rfl) (Reps.none _ _)))); intro v164 w27 ho28 hb hg_ hnew_; clear hg_ hnew_; (first | rw [← Ny163.out] at ho28 | (simp only [Int.reduceToNat] at ho28; rw [← Ny163.out] at ho28)); have n0_ := Aside0.mk (Kd.R_elder' (by (with_reducible repeat (first | apply Kd.R_alloc | apply Kd.R_drewN | apply Kd.R_drew)); exact HO162.out) (Kd.R_base ho28) hb); have n1_ := Aside0.mk (Kd.R_lower (Kd.R_new' ho28 (Kd.R_lt (by (with_reducible repeat (first | apply Kd.R_alloc | apply Kd.R_drewN | apply Kd.R_drew)); exact HO162.out))) (below_size (by repeat (first | (with_reducible first | exact HB.out | apply below_alloc | apply pw_below_drewN | apply below_drew1 | refine below_set ?_ GE159.out) | exact HB.out)))); have n2_ := Aside0.mk (blk_below (g := gb159) (o := .cells #[.bool a0_0, .bool a0_1, .bool true, .bool false, .int .u32 a0_4, .int .u32 a0_5, .int .i64 a0_6] 24 (0, 0)) (by (with_reducible repeat (first | refine blk_drewN ?_ _ | refine blk_drew ?_ | refine blk_alloc ?_ _)); exact BK159.out) hb); have n3_ := Aside0.mk (below_step (by repeat (first | (with_reducible first | exact HB.out | apply below_alloc | apply pw_below_drewN | apply below_drew1 | refine below_set ?_ GE159.out) | exact HB.out)) hb); clear HO162; clear BK159; clear HB; have HO162 := n0_; have HO165 := n1_; have BK159 := n2_; have HB := n3_; clear n0_ n1_ n2_ n3_; clear hb ho28; obtain ⟨Ao30, co30, eo30⟩ := Kd.R_slice HO165.out; subst eo30) | ((with_reducible refine gate_builtin (b := .append) (xs := #[.tmp 14, .tmp 15]) rfl ?_); at_builtin; refine Kd.R_append_rows (Kd.int .u8) (w0 := w) w.heap.size rfl (.tmp 14) (.tmp 15) 35 5 (.int .u8 0) 1 rfl Tryd.underlying35 info5 rfl (by decide) (by omega) v161 y160 y163 _ _ _ (fun k_ => some k_ ≠ (.slice Ao30 y163.length co30 : Value).ownBlock) (fun _ => False) rfl rfl ?aO ?aR (fun _ _ h => h) (fun _ h => h.elim) ?aF ?aB ?aS ?aL ?_; (case aR => repeat (first | exact (Kd.R_reads' HO165.out).2.2 | (with_reducible refine Kd.C_alloc ?_ _) | (with_reducible refine Kd.C_drewN ?_ _) | (with_reducible refine Kd.C_drew ?_))); (case aB => exact (by repeat (first | (with_reducible first | exact HB.out | apply below_alloc | apply pw_below_drewN | apply below_drew1 | refine below_set ?_ GE159.out) | exact HB.out))); (case aF => exact (fun k_ hk => Kd.fresh' (Kd.R_lt (by (with_reducible repeat (first | apply Kd.R_alloc | apply Kd.R_drewN | apply Kd.R_drew)); exact HO165.out)) k_ hk)); (case aO => exact (by (with_reducible repeat (first | apply Kd.R_alloc | apply Kd.R_drewN | apply Kd.R_drew)); exact Kd.R_mono HO162.out (fun _ hk => hk.2))); (case aS => exact (below_size (by repeat (first | (with_reducible first | exact HB.out | apply below_alloc | apply pw_below_drewN | apply below_drew1 | refine below_set ?_ GE159.out) | exact HB.out)))); (case aL => have := LMc5.out; omega); intro v167 w29 ho hb hg hat; rw [← Ny166.out] at ho; have n0_ := Aside0.mk (blk_grown (g := gb159) (o := .cells #[.bool a0_0, .bool a0_1, .bool true, .bool false, .int .u32 a0_4, .int .u32 a0_5, .int .i64 a0_6] 24 (0, 0)) (by (with_reducible repeat (first | refine blk_drewN ?_ _ | refine blk_drew ?_ | refine blk_alloc ?_ _)); exact BK159.out) hg (Kd.R_ne HO162.out BK159.out (by decide))); have n1_ := Aside0.mk (Kd.R_after (ok := (fun _ => True)) (by (with_reducible repeat (first | apply Kd.R_alloc | apply Kd.R_drewN | apply Kd.R_drew)); exact HO165.out) hg hat); have n2_ := Aside0.mk (hb); have n3_ := Aside0.mk (ho); clear BK159; clear HO165; clear HB; clear HO162; have BK159 := n0_; have HO165 := n1_; have HB := n2_; have HO168 := n3_; clear n0_ n1_ n2_ n3_; clear ho hb hg hat; have hcz31_0 : w29.cell? ⟨gb159, 0, none⟩ = some (.bool a0_0) := (blk_cell BK159.out 0).trans rfl; have hcz31_1 : w29.cell? ⟨gb159, 1, none⟩ = some (.bool a0_1) := (blk_cell BK159.out 1).trans rfl; have hcz31_2 : w29.cell? ⟨gb159, 2, none⟩ = some (.bool true) := (blk_cell BK159.out 2).trans rfl; have hcz31_3 : w29.cell? ⟨gb159, 3, none⟩ = some (.bool false) := (blk_cell BK159.out 3).trans rfl; have hcz31_4 : w29.cell? ⟨gb159, 4, none⟩ = some (.int .u32 a0_4) := (blk_cell BK159.out 4).trans rfl; have hcz31_5 : w29.cell? ⟨gb159, 5, none⟩ = some (.int .u32 a0_5) := (blk_cell BK159.out 5).trans rfl; have hcz31_6 : w29.cell? ⟨gb159, 6, none⟩ = some (.int .i64 a0_6) := (blk_cell BK159.out 6).trans rfl; have hfz31_0 := blk_frozen BK159.out 0; have hfz31_1 := blk_frozen BK159.out 1; have hfz31_2 := blk_frozen BK159.out 2; have hfz31_3 := blk_frozen BK159.out 3; have hfz31_4 := blk_frozen BK159.out 4; have hfz31_5 := blk_frozen BK159.out 5; have hfz31_6 := blk_frozen BK159.out 6) | ((with_reducible refine gate_callee (f := 61) rfl ?_); refine goesL_ (some 25) rfl rfl Tryd.func61 (by kernel_rfl) rfl #[.int .i64 a1, .bool false] rfl (by (try simp only [List.map_toArray, List.map_cons, List.map_nil]); first | done | rfl | (simp only [List.length_drop, List.length_take]; rfl)) ?_; (with_reducible refine (marlineref09_Put.calls a1 false t175 _ A21.out).mono ?_); rintro e w32 ⟨v176, rfl, ho0, hb⟩; refine ⟨_, rfl, ?_⟩; have n0_ := Aside0.mk (Kd.R_elder' (by (with_reducible repeat (first | apply Kd.R_alloc | apply Kd.R_drewN | apply Kd.R_drew)); exact HO165.out) (Kd.R_base ho0) hb); have n1_ := Aside0.mk (Kd.R_elder' (by (with_reducible repeat (first | apply Kd.R_alloc | apply Kd.R_drewN | apply Kd.R_drew)); exact HO168.out) (Kd.R_base ho0) hb); have n2_ := Aside0.mk (Kd.R_lower (Kd.R_new' (Kd.R_new' ho0 (Kd.R_lt (by (with_reducible repeat (first | apply Kd.R_alloc | apply Kd.R_drewN | apply Kd.R_drew)); exact HO165.out))) (Kd.R_lt (by (with_reducible repeat (first | apply Kd.R_alloc | apply Kd.R_drewN | apply Kd.R_drew)); exact HO168.out))) (below_size (by repeat (first | (with_reducible first | exact HB.out | apply below_alloc | apply pw_below_drewN | apply below_drew1 | refine below_set ?_ GE159.out) | exact HB.out)))); have n3_ := Aside0.mk (blk_below (g := gb159) (o := .cells #[.bool a0_0, .bool a0_1, .bool true, .bool false, .int .u32 a0_4, .int .u32 a0_5, .int .i64 a0_6] 24 (0, 0)) (by (with_reducible repeat (first | refine blk_drewN ?_ _ | refine blk_drew ?_ | refine blk_alloc ?_ _)); exact BK159.out) hb); have n4_ := Aside0.mk (below_step (by repeat (first | (with_reducible first | exact HB.out | apply below_alloc | apply pw_below_drewN | apply below_drew1 | refine below_set ?_ GE159.out) | exact HB.out)) hb); clear HO165; clear HO168; clear BK159; clear HB; have HO165 := n0_; have HO168 := n1_; have HO177 := n2_; have BK159 := n3_; have HB := n4_; clear n0_ n1_ n2_ n3_ n4_; (try clear hb); (try clear hb2); (try clear hk); (try clear hi); (try clear ho0); obtain ⟨Ao34, co34, eo34⟩ := Kd.R_slice HO177.out; subst eo34) | ((with_reducible refine gate_builtin (b := .append) (xs := #[.tmp 17, .tmp 25]) rfl ?_); at_builtin; refine Kd.R_append_rows (Kd.int .u8) (w0 := w) w.heap.size rfl (.tmp 17) (.tmp 25) 35 5 (.int .u8 0) 1 rfl Tryd.underlying35 info5 rfl (by decide) (by omega) v167 y166 t175 _ _ _ (fun k_ => some k_ ≠ (.slice Ao30 y163.length co30 : Value).ownBlock ∧ some k_ ≠ (.slice Ao34 t175.length co34 : Value).ownBlock) (fun _ => False) rfl rfl ?aO ?aR (fun _ _ h => h) (fun _ h => h.elim) ?aF ?aB ?aS ?aL ?_; (case aR => repeat (first | exact (Kd.R_reads' HO177.out).2.2 | (with_reducible refine Kd.C_alloc ?_ _) | (with_reducible refine Kd.C_drewN ?_ _) | (with_reducible refine Kd.C_drew ?_))); (case aB => exact (by repeat (first | (with_reducible first | exact HB.out | apply below_alloc | apply pw_below_drewN | apply below_drew1 | refine below_set ?_ GE159.out) | exact HB.out))); (case aF => exact (fun k_ hk => ⟨Kd.fresh' (Kd.R_lt (by (with_reducible repeat (first | apply Kd.R_alloc | apply Kd.R_drewN | apply Kd.R_drew)); exact HO165.out)) k_ hk, Kd.fresh' (Kd.R_lt (by (with_reducible repeat (first | apply Kd.R_alloc | apply Kd.R_drewN | apply Kd.R_drew)); exact HO177.out)) k_ hk⟩)); (case aO => exact (by (with_reducible repeat (first | apply Kd.R_alloc | apply Kd.R_drewN | apply Kd.R_drew)); exact HO168.out)); (case aS => exact (below_size (by repeat (first | (with_reducible first | exact HB.out | apply below_alloc | apply pw_below_drewN | apply below_drew1 | refine below_set ?_ GE159.out) | exact HB.out)))); (case aL => have := LMc22.out; omega); intro v179 w33 ho hb hg hat; rw [← Ny178.out] at ho; have n0_ := Aside0.mk (blk_grown (g := gb159) (o := .cells #[.bool a0_0, .bool a0_1, .bool true, .bool false, .int .u32 a0_4, .int .u32 a0_5, .int .i64 a0_6] 24 (0, 0)) (by (with_reducible repeat (first | refine blk_drewN ?_ _ | refine blk_drew ?_ | refine blk_alloc ?_ _)); exact BK159.out) hg (Kd.R_ne HO168.out BK159.out (by decide))); have n1_ := Aside0.mk (Kd.R_after (ok := (fun k_ => some k_ ≠ (.slice Ao34 t175.length co34 : Value).ownBlock)) (by (with_reducible repeat (first | apply Kd.R_alloc | apply Kd.R_drewN | apply Kd.R_drew)); exact Kd.R_mono HO165.out (fun _ hk => ⟨hk.2, hk.1.2⟩)) hg hat); have n2_ := Aside0.mk (Kd.R_after (ok := (fun k_ => some k_ ≠ (.slice Ao30 y163.length co30 : Value).ownBlock)) (by (with_reducible repeat (first | apply Kd.R_alloc | apply Kd.R_drewN | apply Kd.R_drew)); exact Kd.R_mono HO177.out (fun _ hk => ⟨hk.1.2, hk.2⟩)) hg hat); have n3_ := Aside0.mk (hb); have n4_ := Aside0.mk (ho); clear BK159; clear HO165; clear HO177; clear HB; clear HO168; have BK159 := n0_; have HO165 := n1_; have HO177 := n2_; have HB := n3_; have HO180 := n4_; clear n0_ n1_ n2_ n3_ n4_; clear ho hb hg hat))
            go_ret
            exact ⟨_, by first | rfl | (simp [errW_none, errW_some] <;> rfl) | (simp [*, errW_none, errW_some] <;> rfl), by (with_reducible repeat (first | apply Kd.R_alloc | apply Kd.R_drewN | apply Kd.R_drew)); exact Kd.R_mono HO180.out (fun _ hk => trivial), by repeat (first | (with_reducible first | exact HB.out | apply below_alloc | apply pw_below_drewN | apply below_drew1 | refine below_set ?_ GE159.out) | exact HB.out)⟩
          · rw [if_neg c22] at H
            exact absurd H (by simp)
      · rw [if_neg c5] at H
        exact absurd H (by simp)
    · rw [if_neg c4] at H
      have c4b0 : (a1 == 49185) = false := beq_eq_false_iff_ne.mpr c4
      have c4b1 : (a1 != 49185) = true := bne_iff_ne.mpr c4
      (try rw [c4b1] at H)
      by_cases c35 : a0_3 = true
      · subst c35
        have H1 : ((marlineref09_Put.f a1 true).bind fun t181 => (if y160.length + t181.length < 140737488355328 then (some (y160 ++ t181)) else (none))) = some r := by rw [if_pos rfl] at H; exact H
        clear H
        have H := H1
        clear H1
        replace H := Option.bind_eq_some_iff.mp H
        obtain ⟨t181, A360, H⟩ := H
        replace H : (if y160.length + t181.length < 140737488355328 then (some (y160 ++ t181)) else (none)) = some r := H
        have A36 := Aside0.mk A360
        clear A360
        by_cases c37 : y160.length + t181.length < 140737488355328
        · rw [if_pos c37] at H
          have LMc37 := Aside0.mk c37
          clear c37
          obtain ⟨y184, hy184⟩ : ∃ y_ : List Int, y_ = (y160 ++ t181) := ⟨_, rfl⟩
          replace H : (some y184) = some r := by first | (rw [hy184]; with_reducible exact H) | (have H2_ := (Option.bind_some _ _).symm.trans H; rw [hy184]; with_reducible exact H2_) | (have H2_ := (Option.bind_some _ _).symm.trans H; with_reducible exact H2_) | with_reducible exact H | (rw [hy184]; exact H) | exact H
          have Ny184 := Aside0.mk hy184
          clear hy184
          obtain rfl := Option.some.inj H
          go_enter Tryd.func33, Tryd.ntmps33
          go_wp2_with (first | ((with_reducible refine gate_dst (N := 2) rfl ?_); refine box_event ?hg (N := 2) ?hd (cs := #[.bool a0_0, .bool a0_1, .bool true, .bool true, .int .u32 a0_4, .int .u32 a0_5, .int .i64 a0_6]) (t := 24) ?hr ?_; (case hd => rfl); (case hg => rfl); (case hr => first | (go_simp; done) | (go_simp; rfl)); intro gb159 hg w38 hbox hb; have n0_ := Aside0.mk (below_step (by repeat (first | (with_reducible first | exact HB.out | apply below_alloc | apply pw_below_drewN | apply below_drew1) | exact HB.out)) hb); have n1_ := Aside0.mk (hbox); have n2_ := Aside0.mk ((by rw [hg]; exact (below_size (by repeat (first | (with_reducible first | exact HB.out | apply below_alloc | apply pw_below_drewN | apply below_drew1) | exact HB.out))) : w.heap.size ≤ gb159)); have n3_ := Aside0.mk ((by rw [hg]; exact (below_size (by repeat (first | (with_reducible first | exact HB.out | apply below_alloc | apply pw_below_drewN | apply below_drew1) | exact HB.out))) : w.heap.size ≤ gb159)); clear HB; have HB := n0_; have BK159 := n1_; have GW159 := n2_; have GE159 := n3_; clear n0_ n1_ n2_ n3_; clear hb hbox hg) | ((with_reducible refine gate_dst (N := 6) rfl ?_); refine Kd.R_lit (Kd.int .u8) _ 5 ?hg (N := 6) ?hd (xs := ([] : List Int)) (inner := []) (ok := fun _ => True) (okp := fun _ => True) ?hr ?hp (fun _ hk => hk) trivial (Below.refl _ _) (Nat.le_refl _) (by simp) ?_; (case hd => rfl); (case hg => rfl); (case hr => first | (go_simp; done) | (go_simp; rfl)); (case hp => exact (Reps.none _ _)); intro v161 w39 ho40 hb hg_ hnew_; clear hg_ hnew_; (first | rw [← Ny160.out] at ho40 | (simp only [Int.reduceToNat] at ho40; rw [← Ny160.out] at ho40)); have n0_ := Aside0.mk (Kd.R_lower ho40 (below_size (by repeat (first | (with_reducible first | exact HB.out | apply below_alloc | apply pw_below_drewN | apply below_drew1 | refine below_set ?_ GE159.out) | exact HB.out)))); have n1_ := Aside0.mk (blk_below (g := gb159) (o := .cells #[.bool a0_0, .bool a0_1, .bool true, .bool true, .int .u32 a0_4, .int .u32 a0_5, .int .i64 a0_6] 24 (0, 0)) (by (with_reducible repeat (first | refine blk_drewN ?_ _ | refine blk_drew ?_ | refine blk_alloc ?_ _)); exact BK159.out) hb); have n2_ := Aside0.mk (below_step (by repeat (first | (with_reducible first | exact HB.out | apply below_alloc | apply pw_below_drewN | apply below_drew1 | refine below_set ?_ GE159.out) | exact HB.out)) hb); clear BK159; clear HB; have HO162 := n0_; have BK159 := n1_; have HB := n2_; clear n0_ n1_ n2_; clear hb ho40; have hcz41_0 : w39.cell? ⟨gb159, 0, none⟩ = some (.bool a0_0) := (blk_cell BK159.out 0).trans rfl; have hcz41_1 : w39.cell? ⟨gb159, 1, none⟩ = some (.bool a0_1) := (blk_cell BK159.out 1).trans rfl; have hcz41_2 : w39.cell? ⟨gb159, 2, none⟩ = some (.bool true) := (blk_cell BK159.out 2).trans rfl; have hcz41_3 : w39.cell? ⟨gb159, 3, none⟩ = some (.bool true) := (blk_cell BK159.out 3).trans rfl; have hcz41_4 : w39.cell? ⟨gb159, 4, none⟩ = some (.int .u32 a0_4) := (blk_cell BK159.out 4).trans rfl; have hcz41_5 : w39.cell? ⟨gb159, 5, none⟩ = some (.int .u32 a0_5) := (blk_cell BK159.out 5).trans rfl; have hcz41_6 : w39.cell? ⟨gb159, 6, none⟩ = some (.int .i64 a0_6) := (blk_cell BK159.out 6).trans rfl; have hfz41_0 := blk_frozen BK159.out 0; have hfz41_1 := blk_frozen BK159.out 1; have hfz41_2 := blk_frozen BK159.out 2; have hfz41_3 := blk_frozen BK159.out 3; have hfz41_4 := blk_frozen BK159.out 4; have hfz41_5 := blk_frozen BK159.out 5; have hfz41_6 := blk_frozen BK159.out 6) | ((with_reducible refine gate_callee (f := 61) rfl ?_); refine goesL_ (some 25) rfl rfl Tryd.func61 (by kernel_rfl) rfl #[.int .i64 a1, .bool true] rfl (by (try simp only [List.map_toArray, List.map_cons, List.map_nil]); first | done | rfl | (simp only [List.length_drop, List.length_take]; rfl)) ?_; (with_reducible refine (marlineref09_Put.calls a1 true t181 _ A36.out).mono ?_); rintro e w42 ⟨v182, rfl, ho0, hb⟩; refine ⟨_, rfl, ?_⟩; have n0_ := Aside0.mk (Kd.R_elder' (by (with_reducible repeat (first | apply Kd.R_alloc | apply Kd.R_drewN | apply Kd.R_drew)); exact HO162.out) (Kd.R_base ho0) hb); have n1_ := Aside0.mk (Kd.R_lower (Kd.R_new' ho0 (Kd.R_lt (by (with_reducible repeat (first | apply Kd.R_alloc | apply Kd.R_drewN | apply Kd.R_drew)); exact HO162.out))) (below_size (by repeat (first | (with_reducible first | exact HB.out | apply below_alloc | apply pw_below_drewN | apply below_drew1 | refine below_set ?_ GE159.out) | exact HB.out)))); have n2_ := Aside0.mk (blk_below (g := gb159) (o := .cells #[.bool a0_0, .bool a0_1, .bool true, .bool true, .int .u32 a0_4, .int .u32 a0_5, .int .i64 a0_6] 24 (0, 0)) (by (with_reducible repeat (first | refine blk_drewN ?_ _ | refine blk_drew ?_ | refine blk_alloc ?_ _)); exact BK159.out) hb); have n3_ := Aside0.mk (below_step (by repeat (first | (with_reducible first | exact HB.out | apply below_alloc | apply pw_below_drewN | apply below_drew1 | refine below_set ?_ GE159.out) | exact HB.out)) hb); clear HO162; clear BK159; clear HB; have HO162 := n0_; have HO183 := n1_; have BK159 := n2_; have HB := n3_; clear n0_ n1_ n2_ n3_; (try clear hb); (try clear hb2); (try clear hk); (try clear hi); (try clear ho0); obtain ⟨Ao44, co44, eo44⟩ := Kd.R_slice HO183.out; subst eo44) | ((with_reducible refine gate_builtin (b := .append) (xs := #[.tmp 17, .tmp 25]) rfl ?_); at_builtin; refine Kd.R_append_rows (Kd.int .u8) (w0 := w) w.heap.size rfl (.tmp 17) (.tmp 25) 35 5 (.int .u8 0) 1 rfl Tryd.underlying35 info5 rfl (by decide) (by omega) v161 y160 t181 _ _ _ (fun k_ => some k_ ≠ (.slice Ao44 t181.length co44 : Value).ownBlock) (fun _ => False) rfl rfl ?aO ?aR (fun _ _ h => h) (fun _ h => h.elim) ?aF ?aB ?aS ?aL ?_; (case aR => repeat (first | exact (Kd.R_reads' HO183.out).2.2 | (with_reducible refine Kd.C_alloc ?_ _) | (with_reducible refine Kd.C_drewN ?_ _) | (with_reducible refine Kd.C_drew ?_))); (case aB => exact (by repeat (first | (with_reducible first | exact HB.out | apply below_alloc | apply pw_below_drewN | apply below_drew1 | refine below_set ?_ GE159.out) | exact HB.out))); (case aF => exact (fun k_ hk => Kd.fresh' (Kd.R_lt (by (with_reducible repeat (first | apply Kd.R_alloc | apply Kd.R_drewN | apply Kd.R_drew)); exact HO183.out)) k_ hk)); (case aO => exact (by (with_reducible repeat (first | apply Kd.R_alloc | apply Kd.R_drewN | apply Kd.R_drew)); exact Kd.R_mono HO162.out (fun _ hk => hk.2))); (case aS => exact (below_size (by repeat (first | (with_reducible first | exact HB.out | apply below_alloc | apply pw_below_drewN | apply below_drew1 | refine below_set ?_ GE159.out) | exact HB.out)))); (case aL => have := LMc37.out; omega); intro v185 w43 ho hb hg hat; rw [← Ny184.out] at ho; have n0_ := Aside0.mk (blk_grown (g := gb159) (o := .cells #[.bool a0_0, .bool a0_1, .bool true, .bool true, .int .u32 a0_4, .int .u32 a0_5, .int .i64 a0_6] 24 (0, 0)) (by (with_reducible repeat (first | refine blk_drewN ?_ _ | refine blk_drew ?_ | refine blk_alloc ?_ _)); exact BK159.out) hg (Kd.R_ne HO162.out BK159.out (by decide))); have n1_ := Aside0.mk (Kd.R_after (ok := (fun _ => True)) (by (with_reducible repeat (first | apply Kd.R_alloc | apply Kd.R_drewN | apply Kd.R_drew)); exact HO183.out) hg hat); have n2_ := Aside0.mk (hb); have n3_ := Aside0.mk (ho); clear BK159; clear HO183; clear HB; clear HO162; have BK159 := n0_; have HO183 := n1_; have HB := n2_; have HO186 := n3_; clear n0_ n1_ n2_ n3_; clear ho hb hg hat))
          go_ret
          exact ⟨_, by first | rfl | (simp [errW_none, errW_some] <;> rfl) | (simp [*, errW_none, errW_some] <;> rfl), by (with_reducible repeat (first | apply Kd.R_alloc | apply Kd.R_drewN | apply Kd.R_drew)); exact Kd.R_mono HO186.out (fun _ hk => trivial), by repeat (first | (with_reducible first | exact HB.out | apply below_alloc | apply pw_below_drewN | apply below_drew1 | refine below_set ?_ GE159.out) | exact HB.out)⟩
        · rw [if_neg c37] at H
          exact absurd H (by simp)
      · replace c35 := Bool.eq_false_iff.mpr c35
        subst c35
        have H1 : ((marlineref09_Put.f a1 false).bind fun t187 => (if y160.length + t187.length < 140737488355328 then (some (y160 ++ t187)) else (none))) = some r := by rw [if_neg (show ¬ (false = true) by decide)] at H; exact H
        clear H
        have H := H1
        clear H1
        replace H := Option.bind_eq_some_iff.mp H
        obtain ⟨t187, A450, H⟩ := H
        replace H : (if y160.length + t187.length < 140737488355328 then (some (y160 ++ t187)) else (none)) = some r := H
        have A45 := Aside0.mk A450
        clear A450
        by_cases c46 : y160.length + t187.length < 140737488355328
        · rw [if_pos c46] at H
          have LMc46 := Aside0.mk c46
          clear c46
          obtain ⟨y190, hy190⟩ : ∃ y_ : List Int, y_ = (y160 ++ t187) := ⟨_, rfl⟩
          replace H : (some y190) = some r := by first | (rw [hy190]; with_reducible exact H) | (have H2_ := (Option.bind_some _ _).symm.trans H; rw [hy190]; with_reducible exact H2_) | (have H2_ := (Option.bind_some _ _).symm.trans H; with_reducible exact H2_) | with_reducible exact H | (rw [hy190]; exact H) | exact H
          have Ny190 := Aside0.mk hy190
          clear hy190
          obtain rfl := Option.some.inj H
          go_enter Tryd.func33, Tryd.ntmps33
          go_wp2_with (first | ((with_reducible refine gate_dst (N := 2) rfl ?_); refine box_event ?hg (N := 2) ?hd (cs := #[.bool a0_0, .bool a0_1, .bool true, .bool false, .int .u32 a0_4, .int .u32 a0_5, .int .i64 a0_6]) (t := 24) ?hr ?_; (case hd => rfl); (case hg => rfl); (case hr => first | (go_simp; done) | (go_simp; rfl)); intro gb159 hg w47 hbox hb; have n0_ := Aside0.mk (below_step (by repeat (first | (with_reducible first | exact HB.out | apply below_alloc | apply pw_below_drewN | apply below_drew1) | exact HB.out)) hb); have n1_ := Aside0.mk (hbox); have n2_ := Aside0.mk ((by rw [hg]; exact (below_size (by repeat (first | (with_reducible first | exact HB.out | apply below_alloc | apply pw_below_drewN | apply below_drew1) | exact HB.out))) : w.heap.size ≤ gb159)); have n3_ := Aside0.mk ((by rw [hg]; exact (below_size (by repeat (first | (with_reducible first | exact HB.out | apply below_alloc | apply pw_below_drewN | apply below_drew1) | exact HB.out))) : w.heap.size ≤ gb159)); clear HB; have HB := n0_; have BK159 := n1_; have GW159 := n2_; have GE159 := n3_; clear n0_ n1_ n2_ n3_; clear hb hbox hg) | ((with_reducible refine gate_dst (N := 6) rfl ?_); refine Kd.R_lit (Kd.int .u8) _ 5 ?hg (N := 6) ?hd (xs := ([] : List Int)) (inner := []) (ok := fun _ => True) (okp := fun _ => True) ?hr ?hp (fun _ hk => hk) trivial (Below.refl _ _) (Nat.le_refl _) (by simp) ?_; (case hd => rfl); (case hg => rfl); (case hr => first | (go_simp; done) | (go_simp; rfl)); (case hp => exact (Reps.none _ _)); intro v161 w48 ho49 hb hg_ hnew_; clear hg_ hnew_; (first | rw [← Ny160.out] at ho49 | (simp only [Int.reduceToNat] at ho49; rw [← Ny160.out] at ho49)); have n0_ := Aside0.mk (Kd.R_lower ho49 (below_size (by repeat (first | (with_reducible first | exact HB.out | apply below_alloc | apply pw_below_drewN | apply below_drew1 | refine below_set ?_ GE159.out) | exact HB.out)))); have n1_ := Aside0.mk (blk_below (g := gb159) (o := .cells #[.bool a0_0, .bool a0_1, .bool true, .bool false, .int .u32 a0_4, .int .u32 a0_5, .int .i64 a0_6] 24 (0, 0)) (by (with_reducible repeat (first | refine blk_drewN ?_ _ | refine blk_drew ?_ | refine blk_alloc ?_ _)); exact BK159.out) hb); have n2_ := Aside0.mk (below_step (by repeat (first | (with_reducible first | exact HB.out | apply below_alloc | apply pw_below_drewN | apply below_drew1 | refine below_set ?_ GE159.out) | exact HB.out)) hb); clear BK159; clear HB; have HO162 := n0_; have BK159 := n1_; have HB := n2_; clear n0_ n1_ n2_; clear hb ho49; have hcz50_0 : w48.cell? ⟨gb159, 0, none⟩ = some (.bool a0_0) := (blk_cell BK159.out 0).trans rfl; have hcz50_1 : w48.cell? ⟨gb159, 1, none⟩ = some (.bool a0_1) := (blk_cell BK159.out 1).trans rfl; have hcz50_2 : w48.cell? ⟨gb159, 2, none⟩ = some (.bool true) := (blk_cell BK159.out 2).trans rfl; have hcz50_3 : w48.cell? ⟨gb159, 3, none⟩ = some (.bool false) := (blk_cell BK159.out 3).trans rfl; have hcz50_4 : w48.cell? ⟨gb159, 4, none⟩ = some (.int .u32 a0_4) := (blk_cell BK159.out 4).trans rfl; have hcz50_5 : w48.cell? ⟨gb159, 5, none⟩ = some (.int .u32 a0_5) := (blk_cell BK159.out 5).trans rfl; have hcz50_6 : w48.cell? ⟨gb159, 6, none⟩ = some (.int .i64 a0_6) := (blk_cell BK159.out 6).trans rfl; have hfz50_0 := blk_frozen BK159.out 0; have hfz50_1 := blk_frozen BK159.out 1; have hfz50_2 := blk_frozen BK159.out 2; have hfz50_3 := blk_frozen BK159.out 3; have hfz50_4 := blk_frozen BK159.out 4; have hfz50_5 := blk_frozen BK159.out 5; have hfz50_6 := blk_frozen BK159.out 6) | ((with_reducible refine gate_callee (f := 61) rfl ?_); refine goesL_ (some 25) rfl rfl Tryd.func61 (by kernel_rfl) rfl #[.int .i64 a1, .bool false] rfl (by (try simp only [List.map_toArray, List.map_cons, List.map_nil]); first | done | rfl | (simp only [List.length_drop, List.length_take]; rfl)) ?_; (with_reducible refine (marlineref09_Put.calls a1 false t187 _ A45.out).mono ?_); rintro e w51 ⟨v188, rfl, ho0, hb⟩; refine ⟨_, rfl, ?_⟩; have n0_ := Aside0.mk (Kd.R_elder' (by (with_reducible repeat (first | apply Kd.R_alloc | apply Kd.R_drewN | apply Kd.R_drew)); exact HO162.out) (Kd.R_base ho0) hb); have n1_ := Aside0.mk (Kd.R_lower (Kd.R_new' ho0 (Kd.R_lt (by (with_reducible repeat (first | apply Kd.R_alloc | apply Kd.R_drewN | apply Kd.R_drew)); exact HO162.out))) (below_size (by repeat (first | (with_reducible first | exact HB.out | apply below_alloc | apply pw_below_drewN | apply below_drew1 | refine below_set ?_ GE159.out) | exact HB.out)))); have n2_ := Aside0.mk (blk_below (g := gb159) (o := .cells #[.bool a0_0, .bool a0_1, .bool true, .bool false, .int .u32 a0_4, .int .u32 a0_5, .int .i64 a0_6] 24 (0, 0)) (by (with_reducible repeat (first | refine blk_drewN ?_ _ | refine blk_drew ?_ | refine blk_alloc ?_ _)); exact BK159.out) hb); have n3_ := Aside0.mk (below_step (by repeat (first | (with_reducible first | exact HB.out | apply below_alloc | apply pw_below_drewN | apply below_drew1 | refine below_set ?_ GE159.out) | exact HB.out)) hb); clear HO162; clear BK159; clear HB; have HO162 := n0_; have HO189 := n1_; have BK159 := n2_; have HB := n3_; clear n0_ n1_ n2_ n3_; (try clear hb); (try clear hb2); (try clear hk); (try clear hi); (try clear ho0); obtain ⟨Ao53, co53, eo53⟩ := Kd.R_slice HO189.out; subst eo53) | ((with_reducible refine gate_builtin (b := .append) (xs := #[.tmp 17, .tmp 25]) rfl ?_); at_builtin; refine Kd.R_append_rows (Kd.int .u8) (w0 := w) w.heap.size rfl (.tmp 17) (.tmp 25) 35 5 (.int .u8 0) 1 rfl Tryd.underlying35 info5 rfl (by decide) (by omega) v161 y160 t187 _ _ _ (fun k_ => some k_ ≠ (.slice Ao53 t187.length co53 : Value).ownBlock) (fun _ => False) rfl rfl ?aO ?aR (fun _ _ h => h) (fun _ h => h.elim) ?aF ?aB ?aS ?aL ?_; (case aR => repeat (first | exact (Kd.R_reads' HO189.out).2.2 | (with_reducible refine Kd.C_alloc ?_ _) | (with_reducible refine Kd.C_drewN ?_ _) | (with_reducible refine Kd.C_drew ?_))); (case aB => exact (by repeat (first | (with_reducible first | exact HB.out | apply below_alloc | apply pw_below_drewN | apply below_drew1 | refine below_set ?_ GE159.out) | exact HB.out))); (case aF => exact (fun k_ hk => Kd.fresh' (Kd.R_lt (by (with_reducible repeat (first | apply Kd.R_alloc | apply Kd.R_drewN | apply Kd.R_drew)); exact HO189.out)) k_ hk)); (case aO => exact (by (with_reducible repeat (first | apply Kd.R_alloc | apply Kd.R_drewN | apply Kd.R_drew)); exact Kd.R_mono HO162.out (fun _ hk => hk.2))); (case aS => exact (below_size (by repeat (first | (with_reducible first | exact HB.out | apply below_alloc | apply pw_below_drewN | apply below_drew1 | refine below_set ?_ GE159.out) | exact HB.out)))); (case aL => have := LMc46.out; omega); intro v191 w52 ho hb hg hat; rw [← Ny190.out] at ho; have n0_ := Aside0.mk (blk_grown (g := gb159) (o := .cells #[.bool a0_0, .bool a0_1, .bool true, .bool false, .int .u32 a0_4, .int .u32 a0_5, .int .i64 a0_6] 24 (0, 0)) (by (with_reducible repeat (first | refine blk_drewN ?_ _ | refine blk_drew ?_ | refine blk_alloc ?_ _)); exact BK159.out) hg (Kd.R_ne HO162.out BK159.out (by decide))); have n1_ := Aside0.mk (Kd.R_after (ok := (fun _ => True)) (by (with_reducible repeat (first | apply Kd.R_alloc | apply Kd.R_drewN | apply Kd.R_drew)); exact HO189.out) hg hat); have n2_ := Aside0.mk (hb); have n3_ := Aside0.mk (ho); clear BK159; clear HO189; clear HB; clear HO162; have BK159 := n0_; have HO189 := n1_; have HB := n2_; have HO192 := n3_; clear n0_ n1_ n2_ n3_; clear ho hb hg hat))
          go_ret
          exact ⟨_, by first | rfl | (simp [errW_none, errW_some] <;> rfl) | (simp [*, errW_none, errW_some] <;> rfl), by (with_reducible repeat (first | apply Kd.R_alloc | apply Kd.R_drewN | apply Kd.R_drew)); exact Kd.R_mono HO192.out (fun _ hk => trivial), by repeat (first | (with_reducible first | exact HB.out | apply below_alloc | apply pw_below_drewN | apply below_drew1 | refine below_set ?_ GE159.out) | exact HB.out)⟩
        · rw [if_neg c46] at H
          exact absurd H (by simp)
  · replace c3 := Bool.eq_false_iff.mpr c3
    subst c3
    have H1 : ((some (([255, 3] : List Int) : List Int)).bind fun y193 => (if y160.length + y193.length < 140737488355328 then ((some (y160 ++ y193 : List Int)).bind fun y196 => (if a0_3 = true then ((marlineref09_Put.f a1 (a1 != 49185)).bind fun t199 => (if y196.length + t199.length < 140737488355328 then (some (y196 ++ t199)) else (none))) else ((marlineref09_Put.f a1 false).bind fun t205 => (if y196.length + t205.length < 140737488355328 then (some (y196 ++ t205)) else (none))))) else (none))) = some r := by rw [if_neg (show ¬ (false = true) by decide)] at H; exact H
    clear H
    have H := H1
    clear H1
    obtain ⟨y193, hy193⟩ : ∃ y_ : List Int, y_ = (([255, 3] : List Int)) := ⟨_, rfl⟩
    replace H : (if y160.length + y193.length < 140737488355328 then ((some (y160 ++ y193 : List Int)).bind fun y196 => (if a0_3 = true then ((marlineref09_Put.f a1 (a1 != 49185)).bind fun t199 => (if y196.length + t199.length < 140737488355328 then (some (y196 ++ t199)) else (none))) else ((marlineref09_Put.f a1 false).bind fun t205 => (if y196.length + t205.length < 140737488355328 then (some (y196 ++ t205)) else (none))))) else (none)) = some r := by first | (rw [hy193]; with_reducible exact H) | (have H2_ := (Option.bind_some _ _).symm.trans H; rw [hy193]; with_reducible exact H2_) | (have H2_ := (Option.bind_some _ _).symm.trans H; with_reducible exact H2_) | with_reducible exact H | (rw [hy193]; exact H) | exact H
    have Ny193 := Aside0.mk hy193
    clear hy193
    by_cases c54 : y160.length + y193.length < 140737488355328
    · rw [if_pos c54] at H
      have LMc54 := Aside0.mk c54
      clear c54
      obtain ⟨y196, hy196⟩ : ∃ y_ : List Int, y_ = (y160 ++ y193) := ⟨_, rfl⟩
      replace H : (if a0_3 = true then ((marlineref09_Put.f a1 (a1 != 49185)).bind fun t199 => (if y196.length + t199.length < 140737488355328 then (some (y196 ++ t199)) else (none))) else ((marlineref09_Put.f a1 false).bind fun t205 => (if y196.length + t205.length < 140737488355328 then (some (y196 ++ t205)) else (none)))) = some r := by first | (rw [hy196]; with_reducible exact H) | (have H2_ := (Option.bind_some _ _).symm.trans H; rw [hy196]; with_reducible exact H2_) | (have H2_ := (Option.bind_some _ _).symm.trans H; with_reducible exact H2_) | with_reducible exact H | (rw [hy196]; exact H) | exact H
      have Ny196 := Aside0.mk hy196
      clear hy196
      by_cases c55 : a0_3 = true
      · subst c55
        have H1 : ((marlineref09_Put.f a1 (a1 != 49185)).bind fun t199 => (if y196.length + t199.length < 140737488355328 then (some (y196 ++ t199)) else (none))) = some r := by rw [if_pos rfl] at H; exact H
        clear H
        have H := H1
        clear H1
        replace H := Option.bind_eq_some_iff.mp H
        obtain ⟨t199, A560, H⟩ := H
        replace H : (if y196.length + t199.length < 140737488355328 then (some (y196 ++ t199)) else (none)) = some r := H
        have A56 := Aside0.mk A560
        clear A560
        by_cases c57 : y196.length + t199.length < 140737488355328
        · rw [if_pos c57] at H
          have LMc57 := Aside0.mk c57
          clear c57
          obtain ⟨y202, hy202⟩ : ∃ y_ : List Int, y_ = (y196 ++ t199) := ⟨_, rfl⟩
          replace H : (some y202) = some r := by first | (rw [hy202]; with_reducible exact H) | (have H2_ := (Option.bind_some _ _).symm.trans H; rw [hy202]; with_reducible exact H2_) | (have H2_ := (Option.bind_some _ _).symm.trans H; with_reducible exact H2_) | with_reducible exact H | (rw [hy202]; exact H) | exact H
          have Ny202 := Aside0.mk hy202
          clear hy202
          obtain rfl := Option.some.inj H
          go_enter Tryd.func33, Tryd.ntmps33
          go_wp2_with (first | ((with_reducible refine gate_dst (N := 2) rfl ?_); refine box_event ?hg (N := 2) ?hd (cs := #[.bool a0_0, .bool a0_1, .bool false, .bool true, .int .u32 a0_4, .int .u32 a0_5, .int .i64 a0_6]) (t := 24) ?hr ?_; (case hd => rfl); (case hg => rfl); (case hr => first | (go_simp; done) | (go_simp; rfl)); intro gb159 hg w58 hbox hb; have n0_ := Aside0.mk (below_step (by repeat (first | (with_reducible first | exact HB.out | apply below_alloc | apply pw_below_drewN | apply below_drew1) | exact HB.out)) hb); have n1_ := Aside0.mk (hbox); have n2_ := Aside0.mk ((by rw [hg]; exact (below_size (by repeat (first | (with_reducible first | exact HB.out | apply below_alloc | apply pw_below_drewN | apply below_drew1) | exact HB.out))) : w.heap.size ≤ gb159)); have n3_ := Aside0.mk ((by rw [hg]; exact (below_size (by repeat (first | (with_reducible first | exact HB.out | apply below_alloc | apply pw_below_drewN | apply below_drew1) | exact HB.out))) : w.heap.size ≤ gb159)); clear HB; have HB := n0_; have BK159 := n1_; have GW159 := n2_; have GE159 := n3_; clear n0_ n1_ n2_ n3_; clear hb hbox hg) | ((with_reducible refine gate_dst (N := 6) rfl ?_); refine Kd.R_lit (Kd.int .u8) _ 5 ?hg (N := 6) ?hd (xs := ([] : List Int)) (inner := []) (ok := fun _ => True) (okp := fun _ => True) ?hr ?hp (fun _ hk => hk) trivial (Below.refl _ _) (Nat.le_refl _) (by simp) ?_; (case hd => rfl); (case hg => rfl); (case hr => first | (go_simp; done) | (go_simp; rfl)); (case hp => exact (Reps.none _ _)); intro v161 w59 ho60 hb hg_ hnew_; clear hg_ hnew_; (first | rw [← Ny160.out] at ho60 | (simp only [Int.reduceToNat] at ho60; rw [← Ny160.out] at ho60)); have n0_ := Aside0.mk (Kd.R_lower ho60 (below_size (by repeat (first | (with_reducible first | exact HB.out | apply below_alloc | apply pw_below_drewN | apply below_drew1 | refine below_set ?_ GE159.out) | exact HB.out)))); have n1_ := Aside0.mk (blk_below (g := gb159) (o := .cells #[.bool a0_0, .bool a0_1, .bool false, .bool true, .int .u32 a0_4, .int .u32 a0_5, .int .i64 a0_6] 24 (0, 0)) (by (with_reducible repeat (first | refine blk_drewN ?_ _ | refine blk_drew ?_ | refine blk_alloc ?_ _)); exact BK159.out) hb); have n2_ := Aside0.mk (below_step (by repeat (first | (with_reducible first | exact HB.out | apply below_alloc | apply pw_below_drewN | apply below_drew1 | refine below_set ?_ GE159.out) | exact HB.out)) hb); clear BK159; clear HB; have HO162 := n0_; have BK159 := n1_; have HB := n2_; clear n0_ n1_ n2_; clear hb ho60; have hcz61_0 : w59.cell? ⟨gb159, 0, none⟩ = some (.bool a0_0) := (blk_cell BK159.out 0).trans rfl; have hcz61_1 : w59.cell? ⟨gb159, 1, none⟩ = some (.bool a0_1) := (blk_cell BK159.out 1).trans rfl; have hcz61_2 : w59.cell? ⟨gb159, 2, none⟩ = some (.bool false) := (blk_cell BK159.out 2).trans rfl; have hcz61_3 : w59.cell? ⟨gb159, 3, none⟩ = some (.bool true) := (blk_cell BK159.out 3).trans rfl; have hcz61_4 : w59.cell? ⟨gb159, 4, none⟩ = some (.int .u32 a0_4) := (blk_cell BK159.out 4).trans rfl; have hcz61_5 : w59.cell? ⟨gb159, 5, none⟩ = some (.int .u32 a0_5) := (blk_cell BK159.out 5).trans rfl; have hcz61_6 : w59.cell? ⟨gb159, 6, none⟩ = some (.int .i64 a0_6) := (blk_cell BK159.out 6).trans rfl; have hfz61_0 := blk_frozen BK159.out 0; have hfz61_1 := blk_frozen BK159.out 1; have hfz61_2 := blk_frozen BK159.out 2; have hfz61_3 := blk_frozen BK159.out 3; have hfz61_4 := blk_frozen BK159.out 4; have hfz61_5 := blk_frozen BK159.out 5; have hfz61_6 := blk_frozen BK159.out 6) | ((with_reducible refine gate_dst (N := 15) rfl ?_); refine Kd.R_lit (Kd.int .u8) _ 5 ?hg (N := 15) ?hd (xs := ([255, 3] : List Int)) (inner := [.int .u8 255, .int .u8 3]) (ok := fun _ => True) (okp := fun _ => True) ?hr ?hp (fun _ hk => hk) trivial (Below.refl _ _) (Nat.le_refl _) (by simp) ?_; (case hd => rfl); (case hg => rfl); (case hr => first | (go_simp; done) | (go_simp; rfl)); (case hp => exact (Reps.one (show Kd.M (Kd.int .u8) _ _ _ 255 [.int .u8 255] from rfl) (Reps.one (show Kd.M (Kd.int .u8) _ _ _ 3 [.int .u8 3] from rfl) (Reps.none _ _)))); intro v194 w62 ho63 hb hg_ hnew_; clear hg_ hnew_; (first | rw [← Ny193.out] at ho63 | (simp only [Int.reduceToNat] at ho63; rw [← Ny193.out] at ho63)); have n0_ := Aside0.mk (Kd.R_elder' (by (with_reducible repeat (first | apply Kd.R_alloc | apply Kd.R_drewN | apply Kd.R_drew)); exact HO162.out) (Kd.R_base ho63) hb); have n1_ := Aside0.mk (Kd.R_lower (Kd.R_new' ho63 (Kd.R_lt (by (with_reducible repeat (first | apply Kd.R_alloc | apply Kd.R_drewN | apply Kd.R_drew)); exact HO162.out))) (below_size (by repeat (first | (with_reducible first | exact HB.out | apply below_alloc | apply pw_below_drewN | apply below_drew1 | refine below_set ?_ GE159.out) | exact HB.out)))); have n2_ := Aside0.mk (blk_below (g := gb159) (o := .cells #[.bool a0_0, .bool a0_1, .bool false, .bool true, .int .u32 a0_4, .int .u32 a0_5, .int .i64 a0_6] 24 (0, 0)) (by (with_reducible repeat (first | refine blk_drewN ?_ _ | refine blk_drew ?_ | refine blk_alloc ?_ _)); exact BK159.out) hb); have n3_ := Aside0.mk (below_step (by repeat (first | (with_reducible first | exact HB.out | apply below_alloc | apply pw_below_drewN | apply below_drew1 | refine below_set ?_ GE159.out) | exact HB.out)) hb); clear HO162; clear BK159; clear HB; have HO162 := n0_; have HO195 := n1_; have BK159 := n2_; have HB := n3_; clear n0_ n1_ n2_ n3_; clear hb ho63; obtain ⟨Ao65, co65, eo65⟩ := Kd.R_slice HO195.out; subst eo65) | ((with_reducible refine gate_builtin (b := .append) (xs := #[.tmp 14, .tmp 15]) rfl ?_); at_builtin; refine Kd.R_append_rows (Kd.int .u8) (w0 := w) w.heap.size rfl (.tmp 14) (.tmp 15) 35 5 (.int .u8 0) 1 rfl Tryd.underlying35 info5 rfl (by decide) (by omega) v161 y160 y193 _ _ _ (fun k_ => some k_ ≠ (.slice Ao65 y193.length co65 : Value).ownBlock) (fun _ => False) rfl rfl ?aO ?aR (fun _ _ h => h) (fun _ h => h.elim) ?aF ?aB ?aS ?aL ?_; (case aR => repeat (first | exact (Kd.R_reads' HO195.out).2.2 | (with_reducible refine Kd.C_alloc ?_ _) | (with_reducible refine Kd.C_drewN ?_ _) | (with_reducible refine Kd.C_drew ?_))); (case aB => exact (by repeat (first | (with_reducible first | exact HB.out | apply below_alloc | apply pw_below_drewN | apply below_drew1 | refine below_set ?_ GE159.out) | exact HB.out))); (case aF => exact (fun k_ hk => Kd.fresh' (Kd.R_lt (by (with_reducible repeat (first | apply Kd.R_alloc | apply Kd.R_drewN | apply Kd.R_drew)); exact HO195.out)) k_ hk)); (case aO => exact (by (with_reducible repeat (first | apply Kd.R_alloc | apply Kd.R_drewN | apply Kd.R_drew)); exact Kd.R_mono HO162.out (fun _ hk => hk.2))); (case aS => exact (below_size (by repeat (first | (with_reducible first | exact HB.out | apply below_alloc | apply pw_below_drewN | apply below_drew1 | refine below_set ?_ GE159.out) | exact HB.out)))); (case aL => have := LMc54.out; omega); intro v197 w64 ho hb hg hat; rw [← Ny196.out] at ho; have n0_ := Aside0.mk (blk_grown (g := gb159) (o := .cells #[.bool a0_0, .bool a0_1, .bool false, .bool true, .int .u32 a0_4, .int .u32 a0_5, .int .i64 a0_6] 24 (0, 0)) (by (with_reducible repeat (first | refine blk_drewN ?_ _ | refine blk_drew ?_ | refine blk_alloc ?_ _)); exact BK159.out) hg (Kd.R_ne HO162.out BK159.out (by decide))); have n1_ := Aside0.mk (Kd.R_after (ok := (fun _ => True)) (by (with_reducible repeat (first | apply Kd.R_alloc | apply Kd.R_drewN | apply Kd.R_drew)); exact HO195.out) hg hat); have n2_ := Aside0.mk (hb); have n3_ := Aside0.mk (ho); clear BK159; clear HO195; clear HB; clear HO162; have BK159 := n0_; have HO195 := n1_; have HB := n2_; have HO198 := n3_; clear n0_ n1_ n2_ n3_; clear ho hb hg hat; have hcz66_0 : w64.cell? ⟨gb159, 0, none⟩ = some (.bool a0_0) := (blk_cell BK159.out 0).trans rfl; have hcz66_1 : w64.cell? ⟨gb159, 1, none⟩ = some (.bool a0_1) := (blk_cell BK159.out 1).trans rfl; have hcz66_2 : w64.cell? ⟨gb159, 2, none⟩ = some (.bool false) := (blk_cell BK159.out 2).trans rfl; have hcz66_3 : w64.cell? ⟨gb159, 3, none⟩ = some (.bool true) := (blk_cell BK159.out 3).trans rfl; have hcz66_4 : w64.cell? ⟨gb159, 4, none⟩ = some (.int .u32 a0_4) := (blk_cell BK159.out 4).trans rfl; have hcz66_5 : w64.cell? ⟨gb159, 5, none⟩ = some (.int .u32 a0_5) := (blk_cell BK159.out 5).trans rfl; have hcz66_6 : w64.cell? ⟨gb159, 6, none⟩ = some (.int .i64 a0_6) := (blk_cell BK159.out 6).trans rfl; have hfz66_0 := blk_frozen BK159.out 0; have hfz66_1 := blk_frozen BK159.out 1; have hfz66_2 := blk_frozen BK159.out 2; have hfz66_3 := blk_frozen BK159.out 3; have hfz66_4 := blk_frozen BK159.out 4; have hfz66_5 := blk_frozen BK159.out 5; have hfz66_6 := blk_frozen BK159.out 6) | ((with_reducible refine gate_callee (f := 61) rfl ?_); refine goesL_ (some 25) rfl rfl Tryd.func61 (by kernel_rfl) rfl #[.int .i64 a1, .bool (a1 != 49185)] rfl (by (try simp only [List.map_toArray, List.map_cons, List.map_nil]); first | done | rfl | (simp only [List.length_drop, List.length_take]; rfl)) ?_; (with_reducible refine (marlineref09_Put.calls a1 (a1 != 49185) t199 _ A56.out).mono ?_); rintro e w67 ⟨v200, rfl, ho0, hb⟩; refine ⟨_, rfl, ?_⟩; have n0_ := Aside0.mk (Kd.R_elder' (by (with_reducible repeat (first | apply Kd.R_alloc | apply Kd.R_drewN | apply Kd.R_drew)); exact HO195.out) (Kd.R_base ho0) hb); have n1_ := Aside0.mk (Kd.R_elder' (by (with_reducible repeat (first | apply Kd.R_alloc | apply Kd.R_drewN | apply Kd.R_drew)); exact HO198.out) (Kd.R_base ho0) hb); have n2_ := Aside0.mk (Kd.R_lower (Kd.R_new' (Kd.R_new' ho0 (Kd.R_lt (by (with_reducible repeat (first | apply Kd.R_alloc | apply Kd.R_drewN | apply Kd.R_drew)); exact HO195.out))) (Kd.R_lt (by (with_reducible repeat (first | apply Kd.R_alloc | apply Kd.R_drewN | apply Kd.R_drew)); exact HO198.out))) (below_size (by repeat (first | (with_reducible first | exact HB.out | apply below_alloc | apply pw_below_drewN | apply below_drew1 | refine below_set ?_ GE159.out) | exact HB.out)))); have n3_ := Aside0.mk (blk_below (g := gb159) (o := .cells #[.bool a0_0, .bool a0_1, .bool false, .bool true, .int .u32 a0_4, .int .u32 a0_5, .int .i64 a0_6] 24 (0, 0)) (by (with_reducible repeat (first | refine blk_drewN ?_ _ | refine blk_drew ?_ | refine blk_alloc ?_ _)); exact BK159.out) hb); have n4_ := Aside0.mk (below_step (by repeat (first | (with_reducible first | exact HB.out | apply below_alloc | apply pw_below_drewN | apply below_drew1 | refine below_set ?_ GE159.out) | exact HB.out)) hb); clear HO195; clear HO198; clear BK159; clear HB; have HO195 := n0_; have HO198 := n1_; have HO201 := n2_; have BK159 := n3_; have HB := n4_; clear n0_ n1_ n2_ n3_ n4_; (try clear hb); (try clear hb2); (try clear hk); (try clear hi); (try clear ho0); obtain ⟨Ao69, co69, eo69⟩ := Kd.R_slice HO201.out; subst eo69) | ((with_reducible refine gate_builtin (b := .append) (xs := #[.tmp 17, .tmp 25]) rfl ?_); at_builtin; refine Kd.R_append_rows (Kd.int .u8) (w0 := w) w.heap.size rfl (.tmp 17) (.tmp 25) 35 5 (.int .u8 0) 1 rfl Tryd.underlying35 info5 rfl (by decide) (by omega) v197 y196 t199 _ _ _ (fun k_ => some k_ ≠ (.slice Ao65 y193.length co65 : Value).ownBlock ∧ some k_ ≠ (.slice Ao69 t199.length co69 : Value).ownBlock) (fun _ => False) rfl rfl ?aO ?aR (fun _ _ h => h) (fun _ h => h.elim) ?aF ?aB ?aS ?aL ?_; (case aR => repeat (first | exact (Kd.R_reads' HO201.out).2.2 | (with_reducible refine Kd.C_alloc ?_ _) | (with_reducible refine Kd.C_drewN ?_ _) | (with_reducible refine Kd.C_drew ?_))); (case aB => exact (by repeat (first | (with_reducible first | exact HB.out | apply below_alloc | apply pw_below_drewN | apply below_drew1 | refine below_set ?_ GE159.out) | exact HB.out))); (case aF => exact (fun k_ hk => ⟨Kd.fresh' (Kd.R_lt (by (with_reducible repeat (first | apply Kd.R_alloc | apply Kd.R_drewN | apply Kd.R_drew)); exact HO195.out)) k_ hk, Kd.fresh' (Kd.R_lt (by (with_reducible repeat (first | apply Kd.R_alloc | apply Kd.R_drewN | apply Kd.R_drew)); exact HO201.out)) k_ hk⟩)); (case aO => exact (by (with_reducible repeat (first | apply Kd.R_alloc | apply Kd.R_drewN | apply Kd.R_drew)); exact HO198.out)); (case aS => exact (below_size (by repeat (first | (with_reducible first | exact HB.out | apply below_alloc | apply pw_below_drewN | apply below_drew1 | refine below_set ?_ GE159.out) | exact HB.out)))); (case aL => have := LMc57.out; omega); intro v203 w68 ho hb hg hat; rw [← Ny202.out] at ho; have n0_ := Aside0.mk (blk_grown (g := gb159) (o := .cells #[.bool a0_0, .bool a0_1, .bool false, .bool true, .int .u32 a0_4, .int .u32 a0_5, .int .i64 a0_6] 24 (0, 0)) (by (with_reducible repeat (first | refine blk_drewN ?_ _ | refine blk_drew ?_ | refine blk_alloc ?_ _)); exact BK159.out) hg (Kd.R_ne HO198.out BK159.out (by decide))); have n1_ := Aside0.mk (Kd.R_after (ok := (fun k_ => some k_ ≠ (.slice Ao69 t199.length co69 : Value).ownBlock)) (by (with_reducible repeat (first | apply Kd.R_alloc | apply Kd.R_drewN | apply Kd.R_drew)); exact Kd.R_mono HO195.out (fun _ hk => ⟨hk.2, hk.1.2⟩)) hg hat); have n2_ := Aside0.mk (Kd.R_after (ok := (fun k_ => some k_ ≠ (.slice Ao65 y193.length co65 : Value).ownBlock)) (by (with_reducible repeat (first | apply Kd.R_alloc | apply Kd.R_drewN | apply Kd.R_drew)); exact Kd.R_mono HO201.out (fun _ hk => ⟨hk.1.2, hk.2⟩)) hg hat); have n3_ := Aside0.mk (hb); have n4_ := Aside0.mk (ho); clear BK159; clear HO195; clear HO201; clear HB; clear HO198; have BK159 := n0_; have HO195 := n1_; have HO201 := n2_; have HB := n3_; have HO204 := n4_; clear n0_ n1_ n2_ n3_ n4_; clear ho hb hg hat))
          go_ret
          exact ⟨_, by first | rfl | (simp [errW_none, errW_some] <;> rfl) | (simp [*, errW_none, errW_some] <;> rfl), by (with_reducible repeat (first | apply Kd.R_alloc | apply Kd.R_drewN | apply Kd.R_drew)); exact Kd.R_mono HO204.out (fun _ hk => trivial), by repeat (first | (with_reducible first | exact HB.out | apply below_alloc | apply pw_below_drewN | apply below_drew1 | refine below_set ?_ GE159.out) | exact HB.out)⟩
        · rw [if_neg c57] at H
          exact absurd H (by simp)
      · replace c55 := Bool.eq_false_iff.mpr c55
        subst c55
        have H1 : ((marlineref09_Put.f a1 false).bind fun t205 => (if y196.length + t205.length < 140737488355328 then (some (y196 ++ t205)) else (none))) = some r := by rw [if_neg (show ¬ (false = true) by decide)] at H; exact H
        clear H
        have H := H1
        clear H1
        replace H := Option.bind_eq_some_iff.mp H
        obtain ⟨t205, A700, H⟩ := H
        replace H : (if y196.length + t205.length < 140737488355328 then (some (y196 ++ t205)) else (none)) = some r := H
        have A70 := Aside0.mk A700
        clear A700
        by_cases c71 : y196.length + t205.length < 140737488355328
        · rw [if_pos c71] at H
          have LMc71 := Aside0.mk c71
          clear c71
          obtain ⟨y208, hy208⟩ : ∃ y_ : List Int, y_ = (y196 ++ t205) := ⟨_, rfl⟩
          replace H : (some y208) = some r := by first | (rw [hy208]; with_reducible exact H) | (have H2_ := (Option.bind_some _ _).symm.trans H; rw [hy208]; with_reducible exact H2_) | (have H2_ := (Option.bind_some _ _).symm.trans H; with_reducible exact H2_) | with_reducible exact H | (rw [hy208]; exact H) | exact H
          have Ny208 := Aside0.mk hy208
          clear hy208
          obtain rfl := Option.some.inj H
          go_enter Tryd.func33, Tryd.ntmps33
          go_wp2_with (first | ((with_reducible refine gate_dst (N := 2) rfl ?_); refine box_event ?hg (N := 2) ?hd (cs := #[.bool a0_0, .bool a0_1, .bool false, .bool false, .int .u32 a0_4, .int .u32 a0_5, .int .i64 a0_6]) (t := 24) ?hr ?_; (case hd => rfl); (case hg => rfl); (case hr => first | (go_simp; done) | (go_simp; rfl)); intro gb159 hg w72 hbox hb; have n0_ := Aside0.mk (below_step (by repeat (first | (with_reducible first | exact HB.out | apply below_alloc | apply pw_below_drewN | apply below_drew1) | exact HB.out)) hb); have n1_ := Aside0.mk (hbox); have n2_ := Aside0.mk ((by rw [hg]; exact (below_size (by repeat (first | (with_reducible first | exact HB.out | apply below_alloc | apply pw_below_drewN | apply below_drew1) | exact HB.out))) : w.heap.size ≤ gb159)); have n3_ := Aside0.mk ((by rw [hg]; exact (below_size (by repeat (first | (with_reducible first | exact HB.out | apply below_alloc | apply pw_below_drewN | apply below_drew1) | exact HB.out))) : w.heap.size ≤ gb159)); clear HB; have HB := n0_; have BK159 := n1_; have GW159 := n2_; have GE159 := n3_; clear n0_ n1_ n2_ n3_; clear hb hbox hg) | ((with_reducible refine gate_dst (N := 6) rfl ?_); refine Kd.R_lit (Kd.int .u8) _ 5 ?hg (N := 6) ?hd (xs := ([] : List Int)) (inner := []) (ok := fun _ => True) (okp := fun _ => True) ?hr ?hp (fun _ hk => hk) trivial (Below.refl _ _) (Nat.le_refl _) (by simp) ?_; (case hd => rfl); (case hg => rfl); (case hr => first | (go_simp; done) | (go_simp; rfl)); (case hp => exact (Reps.none _ _)); intro v161 w73 ho74 hb hg_ hnew_; clear hg_ hnew_; (first | rw [← Ny160.out] at ho74 | (simp only [Int.reduceToNat] at ho74; rw [← Ny160.out] at ho74)); have n0_ := Aside0.mk (Kd.R_lower ho74 (below_size (by repeat (first | (with_reducible first | exact HB.out | apply below_alloc | apply pw_below_drewN | apply below_drew1 | refine below_set ?_ GE159.out) | exact HB.out)))); have n1_ := Aside0.mk (blk_below (g := gb159) (o := .cells #[.bool a0_0, .bool a0_1, .bool false, .bool false, .int .u32 a0_4, .int .u32 a0_5, .int .i64 a0_6] 24 (0, 0)) (by (with_reducible repeat (first | refine blk_drewN ?_ _ | refine blk_drew ?_ | refine blk_alloc ?_ _)); exact BK159.out) hb); have n2_ := Aside0.mk (below_step (by repeat (first | (with_reducible first | exact HB.out | apply below_alloc | apply pw_below_drewN | apply below_drew1 | refine below_set ?_ GE159.out) | exact HB.out)) hb); clear BK159; clear HB; have HO162 := n0_; have BK159 := n1_; have HB := n2_; clear n0_ n1_ n2_; clear hb ho74; have hcz75_0 : w73.cell? ⟨gb159, 0, none⟩ = some (.bool a0_0) := (blk_cell BK159.out 0).trans rfl; have hcz75_1 : w73.cell? ⟨gb159, 1, none⟩ = some (.bool a0_1) := (blk_cell BK159.out 1).trans rfl; have hcz75_2 : w73.cell? ⟨gb159, 2, none⟩ = some (.bool false) := (blk_cell BK159.out 2).trans rfl; have hcz75_3 : w73.cell? ⟨gb159, 3, none⟩ = some (.bool false) := (blk_cell BK159.out 3).trans rfl; have hcz75_4 : w73.cell? ⟨gb159, 4, none⟩ = some (.int .u32 a0_4) := (blk_cell BK159.out 4).trans rfl; have hcz75_5 : w73.cell? ⟨gb159, 5, none⟩ = some (.int .u32 a0_5) := (blk_cell BK159.out 5).trans rfl; have hcz75_6 : w73.cell? ⟨gb159, 6, none⟩ = some (.int .i64 a0_6) := (blk_cell BK159.out 6).trans rfl; have hfz75_0 := blk_frozen BK159.out 0; have hfz75_1 := blk_frozen BK159.out 1; have hfz75_2 := blk_frozen BK159.out 2; have hfz75_3 := blk_frozen BK159.out 3; have hfz75_4 := blk_frozen BK159.out 4; have hfz75_5 := blk_frozen BK159.out 5; have hfz75_6 := blk_frozen BK159.out 6) | ((with_reducible refine gate_dst (N := 15) rfl ?_); refine Kd.R_lit (Kd.int .u8) _ 5 ?hg (N := 15) ?hd (xs := ([255, 3] : List Int)) (inner := [.int .u8 255, .int .u8 3]) (ok := fun _ => True) (okp := fun _ => True) ?hr ?hp (fun _ hk => hk) trivial (Below.refl _ _) (Nat.le_refl _) (by simp) ?_; (case hd => rfl); (case hg => rfl); (case hr => first | (go_simp; done) | (go_simp; rfl)); (case hp => exact (Reps.one (show Kd.M (Kd.int .u8) _ _ _ 255 [.int .u8 255] from rfl) (Reps.one (show Kd.M (Kd.int .u8) _ _ _ 3 [.int .u8 3] from rfl) (Reps.none _ _)))); intro v194 w76 ho77 hb hg_ hnew_; clear hg_ hnew_; (first | rw [← Ny193.out] at ho77 | (simp only [Int.reduceToNat] at ho77; rw [← Ny193.out] at ho77)); have n0_ := Aside0.mk (Kd.R_elder' (by (with_reducible repeat (first | apply Kd.R_alloc | apply Kd.R_drewN | apply Kd.R_drew)); exact HO162.out) (Kd.R_base ho77) hb); have n1_ := Aside0.mk (Kd.R_lower (Kd.R_new' ho77 (Kd.R_lt (by (with_reducible repeat (first | apply Kd.R_alloc | apply Kd.R_drewN | apply Kd.R_drew)); exact HO162.out))) (below_size (by repeat (first | (with_reducible first | exact HB.out | apply below_alloc | apply pw_below_drewN | apply below_drew1 | refine below_set ?_ GE159.out) | exact HB.out)))); have n2_ := Aside0.mk (blk_below (g := gb159) (o := .cells #[.bool a0_0, .bool a0_1, .bool false, .bool false, .int .u32 a0_4, .int .u32 a0_5, .int .i64 a0_6] 24 (0, 0)) (by (with_reducible repeat (first | refine blk_drewN ?_ _ | refine blk_drew ?_ | refine blk_alloc ?_ _)); exact BK159.out) hb); have n3_ := Aside0.mk (below_step (by repeat (first | (with_reducible first | exact HB.out | apply below_alloc | apply pw_below_drewN | apply below_drew1 | refine below_set ?_ GE159.out) | exact HB.out)) hb); clear HO162; clear BK159; clear HB; have HO162 := n0_; have HO195 := n1_; have BK159 := n2_; have HB := n3_; clear n0_ n1_ n2_ n3_; clear hb ho77; obtain ⟨Ao79, co79, eo79⟩ := Kd.R_slice HO195.out; subst eo79) | ((with_reducible refine gate_builtin (b := .append) (xs := #[.tmp 14, .tmp 15]) rfl ?_); at_builtin; refine Kd.R_append_rows (Kd.int .u8) (w0 := w) w.heap.size rfl (.tmp 14) (.tmp 15) 35 5 (.int .u8 0) 1 rfl Tryd.underlying35 info5 rfl (by decide) (by omega) v161 y160 y193 _ _ _ (fun k_ => some k_ ≠ (.slice Ao79 y193.length co79 : Value).ownBlock) (fun _ => False) rfl rfl ?aO ?aR (fun _ _ h => h) (fun _ h => h.elim) ?aF ?aB ?aS ?aL ?_; (case aR => repeat (first | exact (Kd.R_reads' HO195.out).2.2 | (with_reducible refine Kd.C_alloc ?_ _) | (with_reducible refine Kd.C_drewN ?_ _) | (with_reducible refine Kd.C_drew ?_))); (case aB => exact (by repeat (first | (with_reducible first | exact HB.out | apply below_alloc | apply pw_below_drewN | apply below_drew1 | refine below_set ?_ GE159.out) | exact HB.out))); (case aF => exact (fun k_ hk => Kd.fresh' (Kd.R_lt (by (with_reducible repeat (first | apply Kd.R_alloc | apply Kd.R_drewN | apply Kd.R_drew)); exact HO195.out)) k_ hk)); (case aO => exact (by (with_reducible repeat (first | apply Kd.R_alloc | apply Kd.R_drewN | apply Kd.R_drew)); exact Kd.R_mono HO162.out (fun _ hk => hk.2))); (case aS => exact (below_size (by repeat (first | (with_reducible first | exact HB.out | apply below_alloc | apply pw_below_drewN | apply below_drew1 | refine below_set ?_ GE159.out) | exact HB.out)))); (case aL => have := LMc54.out; omega); intro v197 w78 ho hb hg hat; rw [← Ny196.out] at ho; have n0_ := Aside0.mk (blk_grown (g := gb159) (o := .cells #[.bool a0_0, .bool a0_1, .bool false, .bool false, .int .u32 a0_4, .int .u32 a0_5, .int .i64 a0_6] 24 (0, 0)) (by (with_reducible repeat (first | refine blk_drewN ?_ _ | refine blk_drew ?_ | refine blk_alloc ?_ _)); exact BK159.out) hg (Kd.R_ne HO162.out BK159.out (by decide))); have n1_ := Aside0.mk (Kd.R_after (ok := (fun _ => True)) (by (with_reducible repeat (first | apply Kd.R_alloc | apply Kd.R_drewN | apply Kd.R_drew)); exact HO195.out) hg hat); have n2_ := Aside0.mk (hb); have n3_ := Aside0.mk (ho); clear BK159; clear HO195; clear HB; clear HO162; have BK159 := n0_; have HO195 := n1_; have HB := n2_; have HO198 := n3_; clear n0_ n1_ n2_ n3_; clear ho hb hg hat; have hcz80_0 : w78.cell? ⟨gb159, 0, none⟩ = some (.bool a0_0) := (blk_cell BK159.out 0).trans rfl; have hcz80_1 : w78.cell? ⟨gb159, 1, none⟩ = some (.bool a0_1) := (blk_cell BK159.out 1).trans rfl; have hcz80_2 : w78.cell? ⟨gb159, 2, none⟩ = some (.bool false) := (blk_cell BK159.out 2).trans rfl; have hcz80_3 : w78.cell? ⟨gb159, 3, none⟩ = some (.bool false) := (blk_cell BK159.out 3).trans rfl; have hcz80_4 : w78.cell? ⟨gb159, 4, none⟩ = some (.int .u32 a0_4) := (blk_cell BK159.out 4).trans rfl; have hcz80_5 : w78.cell? ⟨gb159, 5, none⟩ = some (.int .u32 a0_5) := (blk_cell BK159.out 5).trans rfl; have hcz80_6 : w78.cell? ⟨gb159, 6, none⟩ = some (.int .i64 a0_6) := (blk_cell BK159.out 6).trans rfl; have hfz80_0 := blk_frozen BK159.out 0; have hfz80_1 := blk_frozen BK159.out 1; have hfz80_2 := blk_frozen BK159.out 2; have hfz80_3 := blk_frozen BK159.out 3; have hfz80_4 := blk_frozen BK159.out 4; have hfz80_5 := blk_frozen BK159.out 5; have hfz80_6 := blk_frozen BK159.out 6) | ((with_reducible refine gate_callee (f := 61) rfl ?_); refine goesL_ (some 25) rfl rfl Tryd.func61 (by kernel_rfl) rfl #[.int .i64 a1, .bool false] rfl (by (try simp only [List.map_toArray, List.map_cons, List.map_nil]); first | done | rfl | (simp only [List.length_drop, List.length_take]; rfl)) ?_; (with_reducible refine (marlineref09_Put.calls a1 false t205 _ A70.out).mono ?_); rintro e w81 ⟨v206, rfl, ho0, hb⟩; refine ⟨_, rfl, ?_⟩; have n0_ := Aside0.mk (Kd.R_elder' (by (with_reducible repeat (first | apply Kd.R_alloc | apply Kd.R_drewN | apply Kd.R_drew)); exact HO195.out) (Kd.R_base ho0) hb); have n1_ := Aside0.mk (Kd.R_elder' (by (with_reducible repeat (first | apply Kd.R_alloc | apply Kd.R_drewN | apply Kd.R_drew)); exact HO198.out) (Kd.R_base ho0) hb); have n2_ := Aside0.mk (Kd.R_lower (Kd.R_new' (Kd.R_new' ho0 (Kd.R_lt (by (with_reducible repeat (first | apply Kd.R_alloc | apply Kd.R_drewN | apply Kd.R_drew)); exact HO195.out))) (Kd.R_lt (by (with_reducible repeat (first | apply Kd.R_alloc | apply Kd.R_drewN | apply Kd.R_drew)); exact HO198.out))) (below_size (by repeat (first | (with_reducible first | exact HB.out | apply below_alloc | apply pw_below_drewN | apply below_drew1 | refine below_set ?_ GE159.out) | exact HB.out)))); have n3_ := Aside0.mk (blk_below (g := gb159) (o := .cells #[.bool a0_0, .bool a0_1, .bool false, .bool false, .int .u32 a0_4, .int .u32 a0_5, .int .i64 a0_6] 24 (0, 0)) (by (with_reducible repeat (first | refine blk_drewN ?_ _ | refine blk_drew ?_ | refine blk_alloc ?_ _)); exact BK159.out) hb); have n4_ := Aside0.mk (below_step (by repeat (first | (with_reducible first | exact HB.out | apply below_alloc | apply pw_below_drewN | apply below_drew1 | refine below_set ?_ GE159.out) | exact HB.out)) hb); clear HO195; clear HO198; clear BK159; clear HB; have HO195 := n0_; have HO198 := n1_; have HO207 := n2_; have BK159 := n3_; have HB := n4_; clear n0_ n1_ n2_ n3_ n4_; (try clear hb); (try clear hb2); (try clear hk); (try clear hi); (try clear ho0); obtain ⟨Ao83, co83, eo83⟩ := Kd.R_slice HO207.out; subst eo83) | ((with_reducible refine gate_builtin (b := .append) (xs := #[.tmp 17, .tmp 25]) rfl ?_); at_builtin; refine Kd.R_append_rows (Kd.int .u8) (w0 := w) w.heap.size rfl (.tmp 17) (.tmp 25) 35 5 (.int .u8 0) 1 rfl Tryd.underlying35 info5 rfl (by decide) (by omega) v197 y196 t205 _ _ _ (fun k_ => some k_ ≠ (.slice Ao79 y193.length co79 : Value).ownBlock ∧ some k_ ≠ (.slice Ao83 t205.length co83 : Value).ownBlock) (fun _ => False) rfl rfl ?aO ?aR (fun _ _ h => h) (fun _ h => h.elim) ?aF ?aB ?aS ?aL ?_; (case aR => repeat (first | exact (Kd.R_reads' HO207.out).2.2 | (with_reducible refine Kd.C_alloc ?_ _) | (with_reducible refine Kd.C_drewN ?_ _) | (with_reducible refine Kd.C_drew ?_))); (case aB => exact (by repeat (first | (with_reducible first | exact HB.out | apply below_alloc | apply pw_below_drewN | apply below_drew1 | refine below_set ?_ GE159.out) | exact HB.out))); (case aF => exact (fun k_ hk => ⟨Kd.fresh' (Kd.R_lt (by (with_reducible repeat (first | apply Kd.R_alloc | apply Kd.R_drewN | apply Kd.R_drew)); exact HO195.out)) k_ hk, Kd.fresh' (Kd.R_lt (by (with_reducible repeat (first | apply Kd.R_alloc | apply Kd.R_drewN | apply Kd.R_drew)); exact HO207.out)) k_ hk⟩)); (case aO => exact (by (with_reducible repeat (first | apply Kd.R_alloc | apply Kd.R_drewN | apply Kd.R_drew)); exact HO198.out)); (case aS => exact (below_size (by repeat (first | (with_reducible first | exact HB.out | apply below_alloc | apply pw_below_drewN | apply below_drew1 | refine below_set ?_ GE159.out) | exact HB.out)))); (case aL => have := LMc71.out; omega); intro v209 w82 ho hb hg hat; rw [← Ny208.out] at ho; have n0_ := Aside0.mk (blk_grown (g := gb159) (o := .cells #[.bool a0_0, .bool a0_1, .bool false, .bool false, .int .u32 a0_4, .int .u32 a0_5, .int .i64 a0_6] 24 (0, 0)) (by (with_reducible repeat (first | refine blk_drewN ?_ _ | refine blk_drew ?_ | refine blk_alloc ?_ _)); exact BK159.out) hg (Kd.R_ne HO198.out BK159.out (by decide))); have n1_ := Aside0.mk (Kd.R_after (ok := (fun k_ => some k_ ≠ (.slice Ao83 t205.length co83 : Value).ownBlock)) (by (with_reducible repeat (first | apply Kd.R_alloc | apply Kd.R_drewN | apply Kd.R_drew)); exact Kd.R_mono HO195.out (fun _ hk => ⟨hk.2, hk.1.2⟩)) hg hat); have n2_ := Aside0.mk (Kd.R_after (ok := (fun k_ => some k_ ≠ (.slice Ao79 y193.length co79 : Value).ownBlock)) (by (with_reducible repeat (first | apply Kd.R_alloc | apply Kd.R_drewN | apply Kd.R_drew)); exact Kd.R_mono HO207.out (fun _ hk => ⟨hk.1.2, hk.2⟩)) hg hat); have n3_ := Aside0.mk (hb); have n4_ := Aside0.mk (ho); clear BK159; clear HO195; clear HO207; clear HB; clear HO198; have BK159 := n0_; have HO195 := n1_; have HO207 := n2_; have HB := n3_; have HO210 := n4_; clear n0_ n1_ n2_ n3_ n4_; clear ho hb hg hat))
          go_ret
          exact ⟨_, by first | rfl | (simp [errW_none, errW_some] <;> rfl) | (simp [*, errW_none, errW_some] <;> rfl), by (with_reducible repeat (first | apply Kd.R_alloc | apply Kd.R_drewN | apply Kd.R_drew)); exact Kd.R_mono HO210.out (fun _ hk => trivial), by repeat (first | (with_reducible first | exact HB.out | apply below_alloc | apply pw_below_drewN | apply below_drew1 | refine below_set ?_ GE159.out) | exact HB.out)⟩
        · rw [if_neg c71] at H
          exact absurd H (by simp)
    · rw [if_neg c54] at H
      exact absurd H (by simp)
def marlineref09_Right.f (a0 : Int) : Option (Bool) := if (Int.tmod a0 2) = 1 then (if (Int.tmod (wrap64 (Int.tdiv a0 256)) 2) = 0 then (some (a0 != 255)) else (some false)) else (some false)
set_option maxHeartbeats 8000000 in
set_option maxRecDepth 100000 in
theorem marlineref09_Right.calls (a0 : Int) (r : Bool) (w : World) (h : marlineref09_Right.f a0 = some r) :
    Calls Tryd.prog 34 #[.int .i64 a0] w fun e w' => e = .returned (.bool r) ∧ Drawn0 w w' := by
  have H : (if (Int.tmod a0 2) = 1 then (if (Int.tmod (wrap64 (Int.tdiv a0 256)) 2) = 0 then (some (a0 != 255)) else (some false)) else (some false)) = some r := h
  clear h
  by_cases c2 : (Int.tmod a0 2) = 1
  · rw [if_pos c2] at H
    have c2b0 : ((Int.tmod a0 2) == 1) = true := beq_iff_eq.mpr c2
    have c2b1 : ((Int.tmod a0 2) != 1) = false := bne_eq_false_iff_eq.mpr c2
    clear c2
    by_cases c3 : (Int.tmod (wrap64 (Int.tdiv a0 256)) 2) = 0
    · rw [if_pos c3] at H
      have c3b0 : ((Int.tmod (wrap64 (Int.tdiv a0 256)) 2) == 0) = true := beq_iff_eq.mpr c3
      have c3b1 : ((Int.tmod (wrap64 (Int.tdiv a0 256)) 2) != 0) = false := bne_eq_false_iff_eq.mpr c3
      clear c3
      obtain rfl := Option.some.inj H
      go_enter Tryd.func34, Tryd.ntmps34
      go_wp2
      go_ret
      exact ⟨by first | rfl | (simp; done) | (simp [*]; done), by repeat (first | exact Drawn0.refl _ | apply Drawn0.step)⟩
    · rw [if_neg c3] at H
      have c3b0 : ((Int.tmod (wrap64 (Int.tdiv a0 256)) 2) == 0) = false := beq_eq_false_iff_ne.mpr c3
      have c3b1 : ((Int.tmod (wrap64 (Int.tdiv a0 256)) 2) != 0) = true := bne_iff_ne.mpr c3
      obtain rfl := Option.some.inj H
      go_enter Tryd.func34, Tryd.ntmps34
      go_wp2
      go_ret
      exact ⟨by first | rfl | (simp; done) | (simp [*]; done), by repeat (first | exact Drawn0.refl _ | apply Drawn0.step)⟩
  · rw [if_neg c2] at H
    have c2b0 : ((Int.tmod a0 2) == 1) = false := beq_eq_false_iff_ne.mpr c2
    have c2b1 : ((Int.tmod a0 2) != 1) = true := bne_iff_ne.mpr c2
    obtain rfl := Option.some.inj H
    go_enter Tryd.func34, Tryd.ntmps34
    go_wp2
    go_ret
    exact ⟨by first | rfl | (simp; done) | (simp [*]; done), by repeat (first | exact Drawn0.refl _ | apply Drawn0.step)⟩
end Go.Proofs.YtggpejjfgphihaaDoor.H
end

section
namespace Go.Proofs.YtggpejjfgphihaaDoor.Pu
open Go.RowKit Go.Proofs.YtggpejjfgphihaaDoorW.PrintWords Go.Proofs.YtggpejjfgphihaaDoorW.PrintLast Go.Proofs.YtggpejjfgphihaaDoorW.PrintMore
open Go.Proofs.YtggpejjfgphihaaDoor.Given Go.Proofs.YtggpejjfgphihaaDoor.D Go.Proofs.YtggpejjfgphihaaDoor.H
set_option linter.unusedVariables false
set_option linter.unusedSimpArgs false
def right (p : Nat) : Bool := decide (p % 2 = 1) && decide (p / 256 % 2 = 0) && decide (p ≠ 255)
theorem and_bit (p : Nat) : p &&& 2 ^ 8 = 256 * (p / 256 % 2) := by
  have ht : p.testBit 8 = decide (p / 256 % 2 = 1) := by rw [Nat.testBit_eq_decide_div_mod_eq]
  rcases Nat.mod_two_eq_zero_or_one (p / 256) with h2 | h2
  · rw [h2]
    apply Nat.eq_of_testBit_eq
    intro i
    rw [Nat.testBit_and, Nat.testBit_two_pow]
    by_cases hi : 8 = i
    · subst hi; rw [ht, h2]; decide
    · simp [hi]
  · rw [h2]
    apply Nat.eq_of_testBit_eq
    intro i
    rw [Nat.testBit_and, show 256 * 1 = 2 ^ 8 by decide, Nat.testBit_two_pow]
    by_cases hi : 8 = i
    · subst hi; rw [ht, h2]; decide
    · simp [hi]
theorem and257 (p : Nat) : p &&& 257 = p % 2 + 256 * (p / 256 % 2) := by
  have e : (257 : Nat) = 1 ||| 2 ^ 8 := by decide
  rw [e, Nat.and_or_distrib_left, Nat.and_one_is_mod, and_bit]
  rcases Nat.mod_two_eq_zero_or_one p with h1 | h1 <;> rcases Nat.mod_two_eq_zero_or_one (p / 256) with h2 | h2 <;> rw [h1, h2] <;> decide
theorem f_Right (p : Nat) (hp : p < 65536) : proto_Right.f (p : Int) = some (right p) := by
  unfold proto_Right.f
  rw [show (257 : Int) = ((257 : Nat) : Int) from rfl, and_u16 p 257 (by omega) (by decide), and257]
  have h1 : p % 2 < 2 := Nat.mod_lt _ (by decide)
  have h2 : p / 256 % 2 < 2 := Nat.mod_lt _ (by decide)
  unfold right
  by_cases a : p % 2 = 1
  · by_cases b : p / 256 % 2 = 0
    · rw [if_pos (by omega)]; simp [a, b]; rw [Bool.eq_iff_iff]; simp; omega
    · rw [if_neg (by omega)]; simp [a, b]
  · rw [if_neg (by omega)]; simp [a]
theorem r_Right (p : Nat) (hp : p < 65536) : marlineref09_Right.f (p : Int) = some (right p) := by
  unfold marlineref09_Right.f right
  rw [tmod2 p, show Int.tdiv (p : Int) 256 = ((p / 256 : Nat) : Int) from tdivN p 256, w64 (p / 256) (by omega), tmod2]
  by_cases a : p % 2 = 1
  · by_cases b : p / 256 % 2 = 0
    · rw [if_pos (by omega), if_pos (by omega)]; simp [a, b]; rw [Bool.eq_iff_iff]; simp; omega
    · rw [if_pos (by omega), if_neg (by omega)]; simp [a, b]
  · rw [if_neg (by omega)]; simp [a]
def numN (p : Nat) (short : Bool) : List Nat := if short = true ∧ p < 256 then [p % 256] else [p / 256, p % 256]
theorem numN_lt (p : Nat) (short : Bool) (hp : p < 65536) : ∀ x ∈ numN p short, x < 256 := by
  unfold numN
  split <;> simp <;> omega
theorem numN_len (p : Nat) (short : Bool) : 1 ≤ (numN p short).length ∧ (numN p short).length ≤ 2 := by
  unfold numN
  split <;> simp
theorem u64w (n : Nat) (h : n < 18446744073709551616) : IntKind.u64.wrap (n : Int) = (n : Int) := by
  simp [IntKind.wrap, IntKind.bits, IntKind.signed]; omega
theorem u16w (n : Nat) (h : n < 65536) : IntKind.u16.wrap (n : Int) = (n : Int) := by
  simp [IntKind.wrap, IntKind.bits, IntKind.signed]; omega
theorem wa : wrap64 (2 - 1) = 1 := by unfold wrap64; omega
theorem wb : wrap64 (1 - 1) = 0 := by unfold wrap64; omega
theorem wc : wrap64 (0 - 1) = -1 := by unfold wrap64; omega
theorem wd : wrap64 (8 * 1) = 8 := by unfold wrap64; omega
theorem we : wrap64 (8 * 0) = 0 := by unfold wrap64; omega
theorem wirePut2 (k : Nat) (p : Nat) (hp : p < 65536) : wire_Put.f (k + 3) ([] : List Int) (p : Int) 2 = some [((p / 256 : Nat) : Int), ((p % 256 : Nat) : Int)] := by
  unfold wire_Put.f
  rw [wa, wire_Put.l0, if_pos (by omega), wd, if_pos (by omega), if_pos (by simp), wb, wire_Put.l0, if_pos (by omega), we, if_pos (by omega), if_pos (by simp), wc, wire_Put.l0, if_neg (by omega)]
  have e1 : shr .u64 (p : Int) 8 % 256 = ((p / 256 : Nat) : Int) := by
    unfold shr
    rw [show min (8 : Int).toNat IntKind.u64.bits = 8 by decide]; omega
  have e2 : shr .u64 (p : Int) 0 % 256 = ((p % 256 : Nat) : Int) := by
    unfold shr
    rw [show min (0 : Int).toNat IntKind.u64.bits = 0 by decide]; omega
  rw [e1, e2]; rfl
theorem f_Put (k p : Nat) (short : Bool) (hp : p < 65536) : proto_Put.f (k + 3) (p : Int) short = some (ofN (numN p short)) := by
  unfold proto_Put.f numN
  rw [u64w p (by omega), wirePut2 k p hp, Option.bind_some]
  cases short
  · simp [ofN]
  · by_cases h : p < 256
    · have h2 : (p : Int) < 256 := by omega
      simp [proto_Short.f, h, h2, ofN]
    · have h2 : ¬ (p : Int) < 256 := by omega
      simp [proto_Short.f, h, h2, ofN]
theorem r_Put (p : Nat) (short : Bool) (hp : p < 65536) : marlineref09_Put.f (p : Int) short = some (ofN (numN p short)) := by
  unfold marlineref09_Put.f numN
  rw [show Int.tdiv (p : Int) 256 = ((p / 256 : Nat) : Int) from tdivN p 256, w64 (p / 256) (by omega), show Int.tmod (p : Int) 256 = ((p % 256 : Nat) : Int) from tmodN p 256]
  have e1 : ((p / 256 : Nat) : Int) % 256 = ((p / 256 : Nat) : Int) := by omega
  have e2 : ((p % 256 : Nat) : Int) % 256 = ((p % 256 : Nat) : Int) := by omega
  rw [e1, e2]
  cases short
  · simp [ofN]
  · by_cases h : p < 256
    · have h2 : (p : Int) < 256 := by omega
      simp [h, h2, ofN]
    · have h2 : ¬ (p : Int) < 256 := by omega
      simp [h, h2, ofN]
def headN (acfc pfc : Bool) (p : Nat) : List Nat := if acfc = true ∧ p ≠ 49185 then numN p pfc else 255 :: 3 :: numN p (pfc && decide (p ≠ 49185))
theorem f_head (k p : Nat) (hp : p < 65536) (a b acfc pfc : Bool) (x y z : Int) : head_Put.f (k + 3) a b acfc pfc x y z (p : Int) = some (ofN (headN acfc pfc p)) := by
  unfold head_Put.f headN
  have e : (((p : Int) == 49185) : Bool) = decide (p = 49185) := by rw [Bool.eq_iff_iff]; simp; omega
  rw [e, f_Put k p _ hp, Option.bind_some]
  have hl := numN_len p (pfc && !decide (p = 49185))
  have hd : (!decide (p = 49185)) = decide (p ≠ 49185) := by simp
  rw [hd] at hl ⊢
  by_cases h : p = 49185
  · simp only [h, ne_eq, not_true, decide_false, Bool.and_false, Bool.false_eq_true, if_false, and_false] at hl ⊢
    rw [if_pos (by rw [ofN_length]; omega)]; simp [ofN]
  · cases acfc
    · simp only [h, ne_eq, not_false_eq_true, decide_true, Bool.false_and, Bool.and_true, Bool.false_eq_true, if_false, false_and] at hl ⊢
      rw [if_pos (by rw [ofN_length]; omega)]; simp [ofN]
    · simp only [h, ne_eq, not_false_eq_true, decide_true, Bool.true_and, Bool.and_true, if_true, true_and]
theorem r_head (p : Nat) (hp : p < 65536) (a b acfc pfc : Bool) (x y z : Int) : marlineref10_Put.f a b acfc pfc x y z (p : Int) = some (ofN (headN acfc pfc p)) := by
  have e : (((p : Int) != 49185) : Bool) = decide (p ≠ 49185) := by rw [Bool.eq_iff_iff]; simp; omega
  have hl := fun s => numN_len p s
  unfold marlineref10_Put.f headN
  by_cases h : p = 49185
  · subst h
    cases acfc <;> cases pfc <;> decide +kernel
  · have h' : ¬ (p : Int) = 49185 := by omega
    have hd : decide (p ≠ 49185) = true := decide_eq_true h
    rw [e, hd]
    cases acfc <;> cases pfc <;> simp [h, h', r_Put p _ hp, ofN_length] <;> (have h1 := hl true; have h2 := hl false; first | omega | skip)
    all_goals exact ⟨by omega, rfl⟩
def getN (l : List Nat) (short : Bool) : Nat × Nat × Nat :=
  match l with
  | [] => (0, 0, 2)
  | c :: l => if c % 2 = 0 then (match l with
    | [] => (0, 0, 2)
    | d :: _ => if right (256 * c + d) = true then (256 * c + d, 2, 0) else (0, 0, 7))
    else if right c = true ∧ short = true then (c, 1, 0) else (0, 0, 7)
def tri (t : Nat × Nat × Nat) : Int × Int × Int := ((t.1 : Int), (t.2.1 : Int), (t.2.2 : Int))
theorem or64 (a b : Nat) (ha : a < 2 ^ 64) (hb : b < 2 ^ 64) : Go.bits .or .u64 (a : Int) (b : Int) = ((a ||| b : Nat) : Int) := by
  have h : a ||| b < 2 ^ IntKind.u64.bits := Nat.or_lt_two_pow ha hb
  have e1 : a % 2 ^ IntKind.u64.bits = a := Nat.mod_eq_of_lt ha
  have e2 : b % 2 ^ IntKind.u64.bits = b := Nat.mod_eq_of_lt hb
  simp only [Go.bits, BitVec.ofInt_natCast, BitVec.toNat_or, BitVec.toNat_ofNat, e1, e2]
  exact u64w _ h
theorem wireGet2 (k : Nat) (c d : Nat) (l : List Nat) (hc : c < 256) (hd : d < 256) : wire_Get.f (k + 3) (ofN (c :: d :: l)) 2 = some ((256 * c + d : Nat) : Int) := by
  have ht : (ofN (c :: d :: l)).take (2 : Int).toNat = [(c : Int), (d : Int)] := rfl
  have hl : (2 : Int) ≤ ((ofN (c :: d :: l)).length : Int) := by rw [ofN_length]; simp only [List.length_cons]; omega
  have e1 : IntKind.u64.wrap (0 * 256) = ((0 : Nat) : Int) := by decide
  have e2 : wrap64 (0 + 1) = 1 := by unfold wrap64; omega
  have e3 : wrap64 (1 + 1) = 2 := by unfold wrap64; omega
  have r0 : rd [(c : Int), (d : Int)] 0 = (c : Int) := rfl
  have r1 : rd [(c : Int), (d : Int)] 1 = (d : Int) := rfl
  unfold wire_Get.f
  rw [if_pos (by omega), if_pos hl, ht]
  rw [wire_Get.l0, if_pos (by simp), if_pos (by omega), if_pos (by simp), e1, r0, u64w c (by omega), or64 0 c (by omega) (by omega), Nat.zero_or, e2]
  rw [wire_Get.l0, if_pos (by simp), if_pos (by omega), if_pos (by simp), r1, show (c : Int) * 256 = ((c * 256 : Nat) : Int) by omega, u64w (c * 256) (by omega), u64w d (by omega), or64 _ _ (by omega) (by omega), e3]
  rw [wire_Get.l0, if_neg (by simp)]
  have := Nat.two_pow_add_eq_or_of_lt (i := 8) (b := d) hd c
  rw [show c * 256 = 2 ^ 8 * c by omega, ← this]
theorem f_Get (k : Nat) (l : List Nat) (hl : ∀ x ∈ l, x < 256) (short : Bool) : proto_Get.f (k + 3) (ofN l) short = some (tri (getN l short)) := by
  unfold proto_Get.f
  match l with
  | [] => rfl
  | [c] =>
    have hc := hl c List.mem_cons_self
    have r0 : rd (ofN [c]) 0 = (c : Int) := rfl
    have eb : Go.bits .and .u8 (c : Int) 1 = ((c % 2 : Nat) : Int) := by
      rw [show (1 : Int) = ((1 : Nat) : Int) from rfl, and_u8 c 1 (by omega) (by decide), Nat.and_one_is_mod]
    rw [if_neg (by simp [ofN]), if_pos (by simp [ofN]), r0, eb, u16w c (by omega), f_Right c (by omega)]
    unfold getN
    by_cases h : c % 2 = 0
    · rw [if_pos (by omega), if_pos (by simp [ofN])]; simp [h, tri]
    · rw [if_neg (by omega)]
      cases hr : right c <;> cases short <;> simp [h, tri, hr]
  | c :: d :: l =>
    have hc := hl c List.mem_cons_self
    have hd := hl d (List.mem_cons_of_mem _ List.mem_cons_self)
    have r0 : rd (ofN (c :: d :: l)) 0 = (c : Int) := rfl
    have eb : Go.bits .and .u8 (c : Int) 1 = ((c % 2 : Nat) : Int) := by
      rw [show (1 : Int) = ((1 : Nat) : Int) from rfl, and_u8 c 1 (by omega) (by decide), Nat.and_one_is_mod]
    rw [if_neg (by simp [ofN]; omega), if_pos (by simp [ofN]; omega), r0, eb, u16w c (by omega), f_Right c (by omega)]
    unfold getN
    by_cases h : c % 2 = 0
    · rw [if_pos (by omega), if_neg (by simp [ofN]; omega), wireGet2 k c d l hc hd, Option.bind_some, u16w _ (by omega), f_Right _ (by omega), Option.bind_some]
      cases hr : right (256 * c + d) <;> simp [h, tri, hr]
    · rw [if_neg (by omega)]
      cases hr : right c <;> cases short <;> simp [h, tri, hr]
def begins (l : List Nat) : Bool := match l with
  | a :: b :: _ => decide (a = 255) && decide (b = 3)
  | _ => false
theorem f_begins (l : List Nat) (hl : ∀ x ∈ l, x < 256) : bytes_HasPrefix.f (ofN l) [255, 3] = some (begins l) := by
  unfold bytes_HasPrefix.f
  match l with
  | [] => simp [begins, ofN]
  | [c] => simp [begins, ofN]
  | c :: d :: l =>
    have hc := hl c List.mem_cons_self
    have hd := hl d (List.mem_cons_of_mem _ List.mem_cons_self)
    have hlen : ((ofN (c :: d :: l)).length : Int) ≥ (([255, 3] : List Int).length : Int) := by rw [ofN_length]; simp only [List.length_cons, List.length_nil]; omega
    have ht : (ofN (c :: d :: l)).take ((([255, 3] : List Int).length : Int) : Int).toNat = [(c : Int), (d : Int)] := rfl
    rw [if_pos hlen, if_pos (by omega), if_pos hlen, ht]
    unfold bytes_Equal.f
    rw [Lib.strOfNums_toList, Lib.strOfNums_toList, Option.bind_some]
    unfold begins Lib.bytesOf
    congr 1
    rw [Bool.eq_iff_iff]
    simp only [List.map_cons, List.map_nil, beq_iff_eq, List.cons.injEq, and_true, Bool.and_eq_true, decide_eq_true_eq, Int.toNat_natCast]
    have hu : ∀ x y : Nat, x < 256 → y < 256 → (UInt8.ofNat x = UInt8.ofNat y ↔ x = y) := by
      intro x y hx hy
      constructor
      · intro h
        have := congrArg UInt8.toNat h
        simpa [UInt8.toNat_ofNat', Nat.mod_eq_of_lt hx, Nat.mod_eq_of_lt hy] using this
      · rintro rfl; rfl
    rw [show (255 : Int).toNat = 255 from rfl, show (3 : Int).toNat = 3 from rfl, hu c 255 hc (by decide), hu d 3 hd (by decide)]
def getHead (acfc pfc : Bool) (l : List Nat) : Nat × Nat × Nat :=
  if begins l = false ∧ acfc = false then (0, 0, 7) else
    let t := getN (if begins l = true then l.drop 2 else l) pfc
    if t.2.2 = 0 then (t.1, (if begins l = true then 2 else 0) + t.2.1, 0) else (0, 0, 7)
theorem getN_le (l : List Nat) (s : Bool) : (getN l s).2.1 ≤ 2 := by
  unfold getN
  split
  · simp
  · split
    · split
      · simp
      · split <;> simp
    · split <;> simp
theorem begins_len (l : List Nat) (h : begins l = true) : 2 ≤ l.length := by
  match l, h with
  | a :: b :: l, _ => simp
theorem f_getHead (k : Nat) (a b acfc pfc : Bool) (x y z : Int) (l : List Nat) (hl : ∀ x ∈ l, x < 256) (hlen : l.length < 4611686018427387904) : head_Get.f (k + 3) a b acfc pfc x y z (ofN l) = some (tri (getHead acfc pfc l)) := by
  unfold head_Get.f
  rw [f_begins l hl, Option.bind_some]
  unfold getHead
  by_cases hb : begins l = true
  · have hlen2 := begins_len l hb
    have hcut : cutOf true (ofN l) [255, 3] = ofN (l.drop 2) := by unfold cutOf; rw [if_pos rfl]; exact ofN_drop 2 l
    have h2 := getN_le (l.drop 2) pfc
    simp only [hb, hcut, if_true, Bool.true_eq_false, false_and, if_false, f_Get k _ (fun x hx => hl x (List.mem_of_mem_drop hx)) pfc, Option.bind_some, ofN_length, List.length_drop]
    generalize getN (l.drop 2) pfc = t at *
    obtain ⟨t1, t2, t3⟩ := t
    simp only [tri] at h2 ⊢
    have : wrap64 (wrap64 ((l.length : Int) - ((l.length - 2 : Nat) : Int)) + (t2 : Int)) = ((2 + t2 : Nat) : Int) := by unfold wrap64; omega
    rw [this]
    by_cases h3 : t3 = 0
    · subst h3; rfl
    · have h3' : ¬ (t3 : Int) = 0 := by omega
      simp [tri, h3, h3']
  · have hb' : begins l = false := by simpa using hb
    have hcut : cutOf false (ofN l) [255, 3] = ofN l := by unfold cutOf; rw [if_neg (by decide)]
    simp only [hb', hcut, if_true, true_and, Bool.false_eq_true, if_false, f_Get k _ hl pfc, Option.bind_some, ofN_length]
    have h2 := getN_le l pfc
    cases acfc
    · simp [tri]
    · simp only [Bool.true_eq_false, if_false]
      generalize getN l pfc = t at *
      obtain ⟨t1, t2, t3⟩ := t
      simp only [tri] at h2 ⊢
      have : wrap64 (wrap64 ((l.length : Int) - (l.length : Int)) + (t2 : Int)) = ((0 + t2 : Nat) : Int) := by unfold wrap64; omega
      rw [this]
      by_cases h3 : t3 = 0
      · subst h3; rfl
      · have h3' : ¬ (t3 : Int) = 0 := by omega
        simp [tri, h3, h3']
end Go.Proofs.YtggpejjfgphihaaDoor.Pu
end

section
namespace Go.Proofs.YtggpejjfgphihaaDoor.Pu
open Go.RowKit Go.Proofs.YtggpejjfgphihaaDoorW.PrintWords Go.Proofs.YtggpejjfgphihaaDoorW.PrintLast Go.Proofs.YtggpejjfgphihaaDoorW.PrintMore
open Go.Proofs.YtggpejjfgphihaaDoor.Given Go.Proofs.YtggpejjfgphihaaDoor.D Go.Proofs.YtggpejjfgphihaaDoor.H
set_option linter.unusedVariables false
set_option linter.unusedSimpArgs false
theorem right_small (c : Nat) (hc : c < 256) : right c = (decide (c % 2 = 1) && decide (c ≠ 255)) := by
  unfold right
  have h6 : c / 256 % 2 = 0 := by omega
  rw [decide_eq_true h6, Bool.and_true]
theorem right_two (c d : Nat) (hd : d < 256) (h0 : c % 2 = 0) : right (256 * c + d) = (decide (d % 2 = 1) && !(decide (c = 0) && decide (d = 255))) := by
  unfold right
  have hq : (256 * c + d) / 256 % 2 = 0 := by omega
  have hm : (256 * c + d) % 2 = d % 2 := by omega
  rw [decide_eq_true hq, Bool.and_true, hm]
  congr 1
  by_cases h1 : c = 0
  · by_cases h2 : d = 255
    · simp [h1, h2]
    · simp [h1, h2]
  · have : ¬ 256 * c + d = 255 := by omega
    simp [h1, this]
theorem getN_one (c : Nat) (short : Bool) : getN [c] short = if c % 2 = 0 then (0, 0, 2) else if right c = true ∧ short = true then (c, 1, 0) else (0, 0, 7) := rfl
theorem getN_two (c d : Nat) (l : List Nat) (short : Bool) : getN (c :: d :: l) short = if c % 2 = 0 then (if right (256 * c + d) = true then (256 * c + d, 2, 0) else (0, 0, 7)) else if right c = true ∧ short = true then (c, 1, 0) else (0, 0, 7) := rfl
theorem odd_case (c : Nat) (hc : c < 256) (h : c % 2 = 1) (short : Bool) : (if short = true then (if ((c : Nat) : Int) = 255 then (some ((0 : Int), (0 : Int), (7 : Int))) else (some (wrap64 (c : Int), (1 : Int), (0 : Int)))) else (some ((0 : Int), (0 : Int), (7 : Int)))) = some (tri (if right c = true ∧ short = true then (c, 1, 0) else (0, 0, 7))) := by
  rw [right_small c hc, w64 c (by omega)]
  cases short
  · rw [if_neg (by decide), if_neg (by simp)]; rfl
  · rw [if_pos rfl]
    by_cases h5 : c = 255
    · rw [if_pos (by omega), if_neg (by simp [h5])]; rfl
    · rw [if_neg (by omega), if_pos (by simp [h, h5])]; rfl
theorem r_Get (l : List Nat) (hl : ∀ x ∈ l, x < 256) (short : Bool) : marlineref09_Get.f (ofN l) short = some (tri (getN l short)) := by
  unfold marlineref09_Get.f
  match l with
  | [] => rfl
  | [c] =>
    have hc := hl c List.mem_cons_self
    have r0 : rd (ofN [c]) 0 = (c : Int) := rfl
    have hln : ((ofN [c]).length : Int) = 1 := rfl
    rw [hln, if_neg (by decide), if_pos (by decide), r0, tmod2, getN_one]
    by_cases h : c % 2 = 1
    · rw [if_pos (show ((c % 2 : Nat) : Int) = 1 by omega), if_neg (show ¬ (c % 2 = 0) by omega)]
      exact odd_case c hc h short
    · rw [if_neg (show ¬ ((c % 2 : Nat) : Int) = 1 by omega), if_pos (show (1 : Int) < 2 by decide), if_pos (show c % 2 = 0 by omega)]; rfl
  | c :: d :: l =>
    have hc := hl c List.mem_cons_self
    have hd := hl d (List.mem_cons_of_mem _ List.mem_cons_self)
    have r0 : rd (ofN (c :: d :: l)) 0 = (c : Int) := rfl
    have r1 : rd (ofN (c :: d :: l)) 1 = (d : Int) := rfl
    have hln : ((ofN (c :: d :: l)).length : Int) = (l.length : Int) + 2 := by rw [ofN_length]; simp; omega
    rw [hln, if_neg (by omega), if_pos (by omega), r0, r1, tmod2, tmod2, getN_two]
    by_cases h : c % 2 = 1
    · rw [if_pos (show ((c % 2 : Nat) : Int) = 1 by omega), if_neg (show ¬ (c % 2 = 0) by omega)]
      exact odd_case c hc h short
    · have hc0 : c % 2 = 0 := by omega
      have hw : wrap64 (wrap64 (256 * wrap64 (c : Int)) + wrap64 (d : Int)) = ((256 * c + d : Nat) : Int) := by
        rw [w64 c (by omega), w64 d (by omega), show (256 : Int) * (c : Int) = ((256 * c : Nat) : Int) by omega, w64 _ (by omega)]
        unfold wrap64; omega
      rw [if_neg (show ¬ ((c % 2 : Nat) : Int) = 1 by omega), if_neg (show ¬ (l.length : Int) + 2 < 2 by omega), if_pos (show 1 < (l.length : Int) + 2 by omega), if_pos hc0, right_two c d hd hc0, hw]
      by_cases hd0 : d % 2 = 0
      · rw [if_pos (show ((d % 2 : Nat) : Int) = 0 by omega), if_neg (by simp [hd0])]; rfl
      · have hd1 : d % 2 = 1 := by omega
        rw [if_neg (show ¬ ((d % 2 : Nat) : Int) = 0 by omega)]
        by_cases hz : c = 0
        · rw [if_pos (show ((c : Nat) : Int) = 0 by omega)]
          by_cases h5 : d = 255
          · rw [if_pos (show ((d : Nat) : Int) = 255 by omega), if_neg (by simp [hz, h5])]; rfl
          · rw [if_neg (show ¬ ((d : Nat) : Int) = 255 by omega), if_pos (by simp [hd1, h5])]; rfl
        · rw [if_neg (show ¬ ((c : Nat) : Int) = 0 by omega), if_pos (by simp [hd1, hz])]; rfl
theorem r_getHead (k : Nat) (a b acfc pfc : Bool) (x y z : Int) (l : List Nat) (hl : ∀ x ∈ l, x < 256) (hlen : l.length < 4611686018427387904) : marlineref10_Get.f (k + 1) a b acfc pfc x y z (ofN l) = some (tri (getHead acfc pfc l)) := by
  have hdrop : ∀ n, ∀ x ∈ l.drop n, x < 256 := fun n x hx => hl x (List.mem_of_mem_drop hx)
  have jt : begins l = true → marlineref10_Get.j0 (k + 1) (ofN l) 0 true a b acfc pfc x y z = some (tri (getHead acfc pfc l)) := by
    intro hb
    have h2 : 2 ≤ l.length := by
      unfold begins at hb
      split at hb
      · simp
      · simp at hb
    have hle := getN_le (l.drop 2) pfc
    rw [marlineref10_Get.j0, if_pos rfl, if_pos (by rw [ofN_length]; omega), ofN_drop, r_Get _ (hdrop 2) pfc, Option.bind_some]
    unfold getHead
    simp only [hb, if_true, Bool.true_eq_false, false_and, if_false]
    generalize getN (l.drop 2) pfc = t at hle ⊢
    obtain ⟨t1, t2, t3⟩ := t
    simp only at hle ⊢
    have hw : wrap64 (2 + (t2 : Int)) = ((2 + t2 : Nat) : Int) := by unfold wrap64; omega
    show (if ((t3 : Nat) : Int) = 0 then some (((t1 : Nat) : Int), wrap64 (2 + (t2 : Int)), (0 : Int)) else some (0, 0, 7)) = _
    rw [hw]
    by_cases h3 : t3 = 0
    · rw [if_pos (by omega), if_pos h3]; rfl
    · rw [if_neg (by omega), if_neg h3]; rfl
  have jf : begins l = false → marlineref10_Get.j0 (k + 1) (ofN l) 0 false a b acfc pfc x y z = some (tri (getHead acfc pfc l)) := by
    intro hb
    rw [marlineref10_Get.j0, if_neg (by decide)]
    unfold getHead
    cases acfc
    · simp [hb, tri]
    · have hle := getN_le l pfc
      rw [if_pos rfl, if_pos (by decide), if_pos (by omega), show ((0 : Int).toNat) = 0 from rfl, List.drop_zero, r_Get _ hl pfc, Option.bind_some]
      simp only [hb, if_false, Bool.false_eq_true, and_false, Bool.true_eq_false]
      generalize getN l pfc = t at hle ⊢
      obtain ⟨t1, t2, t3⟩ := t
      simp only at hle ⊢
      have hw : wrap64 (0 + (t2 : Int)) = ((0 + t2 : Nat) : Int) := by unfold wrap64; omega
      show (if ((t3 : Nat) : Int) = 0 then some (((t1 : Nat) : Int), wrap64 (0 + (t2 : Int)), (0 : Int)) else some (0, 0, 7)) = _
      rw [hw]
      by_cases h3 : t3 = 0
      · rw [if_pos (by omega), if_pos h3]; rfl
      · rw [if_neg (by omega), if_neg h3]; rfl
  unfold marlineref10_Get.f
  match l, jt, jf with
  | [], jt, jf => exact jf rfl
  | [c], jt, jf => exact jf rfl
  | c :: d :: l, jt, jf =>
    have r0 : rd (ofN (c :: d :: l)) 0 = (c : Int) := rfl
    have r1 : rd (ofN (c :: d :: l)) 1 = (d : Int) := rfl
    have hln : ((ofN (c :: d :: l)).length : Int) = (l.length : Int) + 2 := by rw [ofN_length]; simp; omega
    rw [hln, if_pos (by omega), if_pos (by omega), r0, r1]
    by_cases h : c = 255
    · rw [if_pos (by omega), if_pos (by omega)]
      by_cases h3 : d = 3
      · rw [show (((d : Nat) : Int) == 3) = true by simp; omega]
        exact jt (by simp [begins, h, h3])
      · rw [show (((d : Nat) : Int) == 3) = false by simp; omega]
        exact jf (by simp [begins, h3])
    · rw [if_neg (by omega)]
      exact jf (by simp [begins, h])
end Go.Proofs.YtggpejjfgphihaaDoor.Pu
end
