/- Laid together by wip/prune.py: what the claim needs of the session's texts and of the print program's words. -/
import Derived.Test.YtggpejjfgphihaaDoorMgHeadOne0
import Derived.Test.YtggpejjfgphihaaDoorProg
import Derived.WalkKit
import Derived.Handy
import Derived.Laws.BitsLemmas
import Derived.Deep.WholeRow
import Derived.Deep.LoopGhost
import Derived.Laws.ResultCell
import Derived.Lib.Hide
import Derived.Test.YtggpejjfgphihaaDoorRows
import Derived.ProofKit
import Derived.OpenShut
import Derived.LaidMore
import Derived.Lay
import Derived.Stop.Joined
import Derived.SizedLaws
import Derived.ShutString
import Derived.ChangeOld
import Derived.Below
import Derived.Lib.SlBytesConst
import Derived.Lib.SmallJoins
import Derived.Deep.RegionHeld3
import Derived.OwnWalk
import Derived.Deep.Draws
import Derived.Deep.AppendLies
import Derived.Maps.AppendAt
import Derived.Laws.BytesArg
import Derived.Laws.MakeOwn
import Derived.Laws.OwnMore
import Derived.Deep.OwnRows
import Derived.Tactics
import Derived.Lib.ConvBytes
import Derived.Laws.Slices
import Derived.KernelRfl
import Derived.RowKit3
import Derived.Deep.QuietTactic
import Derived.BigQuiet
import Derived.WideLaws
import Derived.Deep.DeepCutAuto
import Derived.Deep.CutBlock
import Derived.Laws.Rows
import Derived.Lib.AppendStr
import Derived.ArgAppend
import Derived.Laws.IdiomCopy
import Derived.OrdersHeld
import Derived.RowKit
import Derived.Lib.Bytes
import Derived.Lib.BytesEntry
import Derived.Lib.Bytealg
import Derived.Laws.Externs
import Derived.Sort.Grow
import Derived.Shelf.SlSortCmp.Insertion1
import Derived.Lib.SliceRun
import Derived.Lib.LazyBuf
section
namespace Go.Proofs.YtggpejjfgphihaaDoor.Given
open Go.RowKit Go.Proofs.YtggpejjfgphihaaDoorW.PrintWords
structure GH (w : World) : Prop where
  h0 : w.cell? ⟨0, 0, none⟩ = some (.int .u8 255)
  h1 : w.cell? ⟨0, 1, none⟩ = some (.int .u8 3)
theorem GH_below {w w1 : World} (h : GH w) (hb : Below w.heap.size w w1) : GH w1 := ⟨pw_cell_below hb h.h0, pw_cell_below hb h.h1⟩
theorem GH_alloc {w : World} (h : GH w) (o : Obj) : GH (w.alloc o) := GH_below h (below_alloc (Below.refl _ _) o)
theorem GH_drew {w : World} (h : GH w) : GH w.drew := GH_below h (below_drew (Below.refl _ _))
theorem GH_drewN {w : World} (h : GH w) (n : Nat) : GH (w.drewN n) := GH_below h (pw_below_drewN (Below.refl _ _) n)
end Go.Proofs.YtggpejjfgphihaaDoor.Given
end

section
namespace Go.Proofs.YtggpejjfgphihaaDoor.Given
open Go
theorem bits_and_nat (k : IntKind) (n : Nat) (hn : k.bits = n) (hk : ∀ m : Nat, m < 2 ^ n → k.wrap (m : Int) = (m : Int)) (a b : Nat) (ha : a < 2 ^ n) (hb : b < 2 ^ n) :
    Go.bits .and k (a : Int) (b : Int) = ((a &&& b : Nat) : Int) := by
  subst hn
  simp only [Go.bits, BitVec.ofInt_natCast, BitVec.toNat_and, BitVec.toNat_ofNat, Nat.mod_eq_of_lt ha, Nat.mod_eq_of_lt hb]
  exact hk _ (Nat.and_lt_two_pow _ hb)
theorem wrap_u8_nat (m : Nat) (h : m < 2 ^ 8) : IntKind.u8.wrap (m : Int) = (m : Int) := by rw [IntKind.wrap_u8]; omega
theorem wrap_u16_nat (m : Nat) (h : m < 2 ^ 16) : IntKind.u16.wrap (m : Int) = (m : Int) := by simp [IntKind.wrap, IntKind.bits, IntKind.signed]; omega
theorem and_u8 (a b : Nat) (ha : a < 2 ^ 8) (hb : b < 2 ^ 8) : Go.bits .and .u8 (a : Int) (b : Int) = ((a &&& b : Nat) : Int) := bits_and_nat .u8 8 rfl wrap_u8_nat a b ha hb
theorem and_u16 (a b : Nat) (ha : a < 2 ^ 16) (hb : b < 2 ^ 16) : Go.bits .and .u16 (a : Int) (b : Int) = ((a &&& b : Nat) : Int) := bits_and_nat .u16 16 rfl wrap_u16_nat a b ha hb
end Go.Proofs.YtggpejjfgphihaaDoor.Given
end

section
namespace Go.Proofs.YtggpejjfgphihaaDoor.Given
open Go.RowKit Go.Proofs.YtggpejjfgphihaaDoorW.PrintWords
set_option linter.unusedVariables false
def okByte (x : Int) : Bool := decide (0 ≤ x) && decide (x < 256)
theorem made_row (w2 : World) (a b : Array Value) (t : TypeId) : (w2.alloc (.cells a t)).setRow w2.heap.size b = w2.alloc (.cells b t) := World.setRow_alloc_new w2 a b t
end Go.Proofs.YtggpejjfgphihaaDoor.Given
end

section
namespace Go.Proofs.YtggpejjfgphihaaDoor.Rk
open Go.ChangeShapes Go.WideShapes Go.ChangeAt Go.WideMaps Go.WideElems Go.RowKit
open Go.Proofs.YtggpejjfgphihaaDoor.Given Go.Proofs.YtggpejjfgphihaaDoorW.PrintWords
set_option linter.unusedVariables false
theorem own : ownKnob Tryd.prog.godebug = none := by kernel_rfl
theorem laidOut : laidOutB Tryd.prog = true := by kernel_rfl
theorem gFull : Tryd.prog.globalNamed "marline/head.full" = some 0 := by kernel_rfl
theorem tFull : (Tryd.prog.globals[0]?).map (·.type) = some 82 := by kernel_rfl
theorem cells82 : Tryd.prog.cellsOf 82 = 2 := by kernel_rfl
theorem cells24 : Tryd.prog.cellsOf 24 = 7 := by kernel_rfl
theorem cells22 : Tryd.prog.cellsOf 22 = 1 := by kernel_rfl
theorem cells3 : Tryd.prog.cellsOf 3 = 1 := by kernel_rfl
theorem cells4 : Tryd.prog.cellsOf 4 = 1 := by kernel_rfl
theorem cells5 : Tryd.prog.cellsOf 5 = 1 := by kernel_rfl
section
variable {H : Type} {enc : TypeId × Value → H} {W : World} {base : Nat} {spare : Nat → Bool} {held : Bool}
set_option maxRecDepth 100000 in
theorem full_cells {n : Nat} {cs : List Value} {a b : Int} {ps : List MemPlace}
    (h : DataW.trod enc Tryd.prog W base spare held n 82 cs = some (.agg [.lit (.int .u8 a), .lit (.int .u8 b)], ps)) :
    cs = [.int .u8 a, .int .u8 b] := by
  obtain ⟨xs, m, rfl, hx, hl, hn, hel⟩ := DataW.trod_array Tryd.underlying82 h
  match xs, hn with
  | [y0, y1], _ =>
    simp only [Prod.mk.injEq, DataW.agg.injEq, List.map_cons, List.map_nil, List.cons.injEq, and_true] at hx
    obtain ⟨⟨e0, e1⟩, _⟩ := hx
    have f0 := hel 0 (by decide)
    have f1 := hel 1 (by decide)
    rw [cells5] at f0 f1
    have hl2 : cs.length = 2 := by simpa [cells82, cells5] using hl
    match cs, hl2 with
    | [c0, c1], _ =>
      simp only [Nat.zero_mul, Nat.one_mul, List.drop_zero, List.drop_succ_cons, List.take_succ_cons, List.take_zero, List.getElem?_cons_zero, List.getElem?_cons_succ] at f0 f1
      obtain ⟨k0, g0, h0, _⟩ := DataW.trod_int Tryd.underlying5 f0
      obtain ⟨k1, g1, h1, _⟩ := DataW.trod_int Tryd.underlying5 f1
      rw [h0] at e0; rw [h1] at e1
      simp only [DataW.lit.injEq, Lit.int.injEq, true_and] at e0 e1
      simp only [List.cons.injEq, and_true] at g0 g1
      rw [g0, g1, e0, e1]
set_option maxRecDepth 100000 in
theorem open_cfg {r : Reach} {b0 : Nat} {v : Value} {d : DataW H} {p : List MemPlace} (hv : Value.okWide Tryd.prog W r b0 24 v) (h : DataW.Trod enc Tryd.prog W base spare held 24 v d p) :
    ∃ (a0 a1 a2 a3 : Bool) (a4 a5 a6 : Int), v = .agg #[.bool a0, .bool a1, .bool a2, .bool a3, .int .u32 a4, .int .u32 a5, .int .i64 a6] ∧
      (Lit.int .u32 a4).wf = true ∧ (Lit.int .u32 a5).wf = true ∧ (Lit.int .i64 a6).wf = true := by
  obtain ⟨cs, rfl, hsz⟩ := okWide_struct Tryd.underlying24 hv
  obtain ⟨l⟩ := cs
  obtain ⟨fuel, hf0⟩ := h
  have hf1 : DataW.trod enc Tryd.prog W base spare held fuel 24 l = some (d, p) := by simpa [Value.cells] using hf0
  obtain ⟨xs, m, _, hx, hl, hxl, hf⟩ := DataW.trod_struct Tryd.underlying24 hf1
  rw [cells24] at hl
  match l, hl with
  | [c0, c1, c2, c3, c4, c5, c6], _ =>
    match xs, hxl with
    | [y0, y1, y2, y3, y4, y5, y6], _ =>
      have f0 : DataW.trod enc Tryd.prog W base spare held m 4 (([c0, c1, c2, c3, c4, c5, c6].drop 0).take (Tryd.prog.cellsOf 4)) = ([y0, y1, y2, y3, y4, y5, y6] : List (DataW H × List MemPlace))[0]? := hf 0 _ rfl
      rw [cells4] at f0
      replace f0 : DataW.trod enc Tryd.prog W base spare held m 4 [c0] = some y0 := f0
      have f1 : DataW.trod enc Tryd.prog W base spare held m 4 (([c0, c1, c2, c3, c4, c5, c6].drop 1).take (Tryd.prog.cellsOf 4)) = ([y0, y1, y2, y3, y4, y5, y6] : List (DataW H × List MemPlace))[1]? := hf 1 _ rfl
      rw [cells4] at f1
      replace f1 : DataW.trod enc Tryd.prog W base spare held m 4 [c1] = some y1 := f1
      have f2 : DataW.trod enc Tryd.prog W base spare held m 4 (([c0, c1, c2, c3, c4, c5, c6].drop 2).take (Tryd.prog.cellsOf 4)) = ([y0, y1, y2, y3, y4, y5, y6] : List (DataW H × List MemPlace))[2]? := hf 2 _ rfl
      rw [cells4] at f2
      replace f2 : DataW.trod enc Tryd.prog W base spare held m 4 [c2] = some y2 := f2
      have f3 : DataW.trod enc Tryd.prog W base spare held m 4 (([c0, c1, c2, c3, c4, c5, c6].drop 3).take (Tryd.prog.cellsOf 4)) = ([y0, y1, y2, y3, y4, y5, y6] : List (DataW H × List MemPlace))[3]? := hf 3 _ rfl
      rw [cells4] at f3
      replace f3 : DataW.trod enc Tryd.prog W base spare held m 4 [c3] = some y3 := f3
      have f4 : DataW.trod enc Tryd.prog W base spare held m 22 (([c0, c1, c2, c3, c4, c5, c6].drop 4).take (Tryd.prog.cellsOf 22)) = ([y0, y1, y2, y3, y4, y5, y6] : List (DataW H × List MemPlace))[4]? := hf 4 _ rfl
      rw [cells22] at f4
      replace f4 : DataW.trod enc Tryd.prog W base spare held m 22 [c4] = some y4 := f4
      have f5 : DataW.trod enc Tryd.prog W base spare held m 22 (([c0, c1, c2, c3, c4, c5, c6].drop 5).take (Tryd.prog.cellsOf 22)) = ([y0, y1, y2, y3, y4, y5, y6] : List (DataW H × List MemPlace))[5]? := hf 5 _ rfl
      rw [cells22] at f5
      replace f5 : DataW.trod enc Tryd.prog W base spare held m 22 [c5] = some y5 := f5
      have f6 : DataW.trod enc Tryd.prog W base spare held m 3 (([c0, c1, c2, c3, c4, c5, c6].drop 6).take (Tryd.prog.cellsOf 3)) = ([y0, y1, y2, y3, y4, y5, y6] : List (DataW H × List MemPlace))[6]? := hf 6 _ rfl
      rw [cells3] at f6
      replace f6 : DataW.trod enc Tryd.prog W base spare held m 3 [c6] = some y6 := f6
      obtain ⟨k0, g0, _⟩ := DataW.trod_bool Tryd.underlying4 f0
      obtain ⟨k1, g1, _⟩ := DataW.trod_bool Tryd.underlying4 f1
      obtain ⟨k2, g2, _⟩ := DataW.trod_bool Tryd.underlying4 f2
      obtain ⟨k3, g3, _⟩ := DataW.trod_bool Tryd.underlying4 f3
      obtain ⟨k4, g4, _, w4⟩ := DataW.trod_int Tryd.underlying22 f4
      obtain ⟨k5, g5, _, w5⟩ := DataW.trod_int Tryd.underlying22 f5
      obtain ⟨k6, g6, _, w6⟩ := DataW.trod_int Tryd.underlying3 f6
      simp only [List.cons.injEq, and_true] at g0 g1 g2 g3 g4 g5 g6
      exact ⟨k0, k1, k2, k3, k4, k5, k6, by rw [g0, g1, g2, g3, g4, g5, g6], w4, w5, w6⟩
end
theorem wf_u32 {n : Int} (h : (Lit.int .u32 n).wf = true) : 0 ≤ n ∧ n < 4294967296 := by
  have : IntKind.u32.min ≤ n ∧ n ≤ IntKind.u32.max := by simpa [Lit.wf] using h
  have e1 : IntKind.u32.min = 0 := by decide
  have e2 : IntKind.u32.max = 4294967295 := by decide
  omega
theorem wf_u16 {n : Int} (h : (Lit.int .u16 n).wf = true) : 0 ≤ n ∧ n < 65536 := by
  have : IntKind.u16.min ≤ n ∧ n ≤ IntKind.u16.max := by simpa [Lit.wf] using h
  have e1 : IntKind.u16.min = 0 := by decide
  have e2 : IntKind.u16.max = 65535 := by decide
  omega
theorem wf_u8 {n : Int} (h : (Lit.int .u8 n).wf = true) : 0 ≤ n ∧ n < 256 := by
  have : IntKind.u8.min ≤ n ∧ n ≤ IntKind.u8.max := by simpa [Lit.wf] using h
  have e1 : IntKind.u8.min = 0 := by decide
  have e2 : IntKind.u8.max = 255 := by decide
  omega
theorem bounds_i64 {n : Int} (h : (Lit.int .i64 n).wf = true) : -9223372036854775808 ≤ n ∧ n ≤ 9223372036854775807 := by
  have : IntKind.i64.min ≤ n ∧ n ≤ IntKind.i64.max := by simpa [Lit.wf] using h
  have e1 : IntKind.i64.min = -9223372036854775808 := by decide
  have e2 : IntKind.i64.max = 9223372036854775807 := by decide
  omega
theorem open_bytes {H : Type} {enc : TypeId × Value → H} {W : World} {base : Nat} {held : Bool} {a : Option Addr} {len cap : Nat} {d : DataW H} {p : List MemPlace}
    (h : DataW.Trod enc Tryd.prog W base (fun _ => true) held 35 (.slice a len cap) d p) :
    ∃ l : List Int, len = l.length ∧ Kd.C (Kd.int .u8) W a l.length l ∧ l.length ≤ cap ∧ l.all okByte = true := by
  obtain ⟨fuel, hf⟩ := h
  rcases open_ints Tryd.underlying35 Tryd.underlying5 (by kernel_rfl) hf with ⟨hcs, _⟩ | ⟨x, l, c, zs, hcs, _, hl, hm, hz, _, hcell, hwz⟩
  · simp [Value.cells] at hcs
    obtain ⟨rfl, rfl, rfl⟩ := hcs
    exact ⟨[], rfl, Kd.C_nil _ _, Nat.le_refl _, rfl⟩
  · simp [Value.cells] at hcs
    obtain ⟨rfl, rfl, rfl⟩ := hcs
    obtain ⟨l1, hl1, hr1, hm1, hw1, hc1⟩ := ReadsInt.ofRowC (w := W) (a := some x) (len := len) (cap := cap) (zs := zs) (k := .u8) (.inr ⟨x, rfl, hl, hm, by simpa using hz, hcell, hwz⟩)
    refine ⟨l1, hl1, Kd.C_of_reads (d := (0 : Int)) (h1 := fun _ => rfl) hr1, hc1, ?_⟩
    rw [List.all_eq_true]
    intro y hy
    have := wf_u8 (hw1 y hy)
    simp [okByte]
    exact this
abbrev laidH : List (String × DataW Unit) := [("marline/head.full", Rows.laid_marline_head_full)]
theorem cell_at {W : World} {g : Nat} {name : String} {cs : Array Value} {l : List Value} (hg : Tryd.prog.globalNamed name = some g) (hv : W.var? Tryd.prog name = some cs) (he : cs.toList = l) (j : Nat) : W.cell? ⟨g, j, none⟩ = l[j]? := by
  rw [World.var?_cell hg hv j, ← he]; simp
theorem gh_of {W : World} {c : Array Value} (hf : W.var? Tryd.prog "marline/head.full" = some c) (ef : c.toList = [.int .u8 255, .int .u8 3]) : GH W :=
  ⟨cell_at gFull hf ef 0, cell_at gFull hf ef 1⟩
theorem of_laidH {W : World} (h : laidMetH Tryd.prog laidH W) : GH W := by
  rw [MakeChecks.laidMetH_plain _ _ _ (by kernel_rfl)] at h
  obtain ⟨ps, ⟨g0, t0, cs0, f0, p0, q0, hg0, ht0, hv0, hd0, _, _⟩, _, _⟩ := h
  obtain rfl := Option.some.inj (gFull.symm.trans hg0)
  obtain rfl := Option.some.inj (tFull.symm.trans ht0)
  exact gh_of hv0 (full_cells hd0)
end Go.Proofs.YtggpejjfgphihaaDoor.Rk
end

section
namespace Go.Proofs.YtggpejjfgphihaaDoor.D
open Go.Proofs.YtggpejjfgphihaaDoor.Given Go.RowKit Go.Proofs.YtggpejjfgphihaaDoorW.PrintWords Go.Proofs.YtggpejjfgphihaaDoorW.PrintLast Go.Proofs.YtggpejjfgphihaaDoorW.PrintMore
attribute [local go_sem] max2_int min2_int max_two min_two max_three min_three max_four min_four
set_option linter.unusedVariables false
set_option linter.unusedSimpArgs false
def errW : Option Int → Value
  | none => .nilIface
  | some c => .iface 0 (.int .i64 c)
theorem errW_none : errW none = .nilIface := rfl
theorem errW_some (c : Int) : errW (some c) = .iface 0 (.int .i64 c) := rfl
theorem info5 : (Tryd.prog.info? 5).map (fun i => (i.zero, i.size, i.bytes)) = some (some (.int .u8 0), 1, 1) := by kernel_rfl
end Go.Proofs.YtggpejjfgphihaaDoor.D
end

section
namespace Go.Proofs.YtggpejjfgphihaaDoor.D
open Go.Proofs.YtggpejjfgphihaaDoor.Given Go.RowKit Go.Proofs.YtggpejjfgphihaaDoorW.PrintWords Go.Proofs.YtggpejjfgphihaaDoorW.PrintLast Go.Proofs.YtggpejjfgphihaaDoorW.PrintMore
attribute [local go_sem] max2_int min2_int max_two min_two max_three min_three max_four min_four
set_option linter.unusedVariables false
set_option linter.unusedSimpArgs false
def marlineref01_Equal.l0 : Nat → List Int → List Int → Int → Option (Bool)
  | 0, _, _, _ => none
  | k + 1, x0, x1, x5 => if x5 < (x0.length : Int) then (if 0 ≤ x5 then (if x5 < (x1.length : Int) then (if (rd x0 x5) = (rd x1 x5) then (marlineref01_Equal.l0 k x0 x1 (wrap64 (x5 + 1))) else (some false)) else (none)) else (none)) else (some true)
def marlineref01_Equal.f (k : Nat) (l0 : List Int) (l1 : List Int) : Option (Bool) := if (l0.length : Int) = (l1.length : Int) then (marlineref01_Equal.l0 k l0 l1 0) else (some false)
set_option maxHeartbeats 8000000 in
set_option maxRecDepth 100000 in
theorem marlineref01_Equal.calls (k : Nat) (A0 : Option Addr) (c0 : Nat) (l0 : List Int) (A1 : Option Addr) (c1 : Nat) (l1 : List Int) (r : Bool) (w : World) (hr0 : Kd.C (Kd.int .u8) w A0 l0.length l0) (hc0 : l0.length ≤ c0) (hr1 : Kd.C (Kd.int .u8) w A1 l1.length l1) (hc1 : l1.length ≤ c1) (h : marlineref01_Equal.f k l0 l1 = some r) :
    Calls Tryd.prog 31 #[.slice A0 l0.length c0, .slice A1 l1.length c1] w fun e w' => e = .returned (.bool r) ∧ Drawn0 w w' := by
  have HR0 := Aside0.mk hr0
  have HC0 := Aside0.mk hc0
  clear hr0 hc0
  have HR1 := Aside0.mk hr1
  have HC1 := Aside0.mk hc1
  clear hr1 hc1
  have H : (if (l0.length : Int) = (l1.length : Int) then (marlineref01_Equal.l0 k l0 l1 0) else (some false)) = some r := h
  clear h
  by_cases c3 : (l0.length : Int) = (l1.length : Int)
  · rw [if_pos c3] at H
    have c3b0 : ((l0.length : Int) == (l1.length : Int)) = true := beq_iff_eq.mpr c3
    have c3b1 : ((l0.length : Int) != (l1.length : Int)) = false := bne_eq_false_iff_eq.mpr c3
    have c3b2 : (l0.length == l1.length) = true := by first | simpa using c3 | (simp at c3 ⊢; omega)
    clear c3
    have H' := Aside0.mk H
    clear H
    go_enter Tryd.func31, Tryd.ntmps31
    go_wp2
    repeat (go_quiet (fail); try go_wp2)
    go_loopg [5] k (fun kq v5 w' => ∃ (x5_1 : Int), v5 = .int .i64 x5_1 ∧ Aside0 (marlineref01_Equal.l0 kq l0 l1 x5_1 = some r) ∧ Aside0 (kq ≤ k) ∧ Drawn0 w w')
    case atStart => exact ⟨(0), (by first | rfl | (simp; done) | (simp [*]; done)), H', ⟨Nat.le_refl _⟩, by repeat (first | exact Drawn0.refl _ | apply Drawn0.step)⟩
    case round =>
      clear H'
      try clear c1
      try clear p2
      try clear c3
      try clear c3b0
      try clear c3b1
      try clear c3b2
      obtain ⟨x5_1, rfl, HA, HK1, ⟨m1, rfl⟩⟩ := hrel
      cases gk with
      | zero => exact absurd HA.out (by simp [marlineref01_Equal.l0])
      | succ k1 =>
        have H := HA.out
        clear HA
        simp only [marlineref01_Equal.l0] at H
        by_cases c4 : x5_1 < (l0.length : Int)
        · rw [if_pos c4] at H
          have c4b0 : decide (x5_1 < (l0.length : Int)) = true := decide_eq_true c4
          clear c4
          by_cases c5 : 0 ≤ x5_1
          · rw [if_pos c5] at H
            have c5b0 : decide (0 ≤ x5_1) = true := decide_eq_true c5
            clear c5
            by_cases c6 : x5_1 < (l1.length : Int)
            · rw [if_pos c6] at H
              have c6b0 : decide (x5_1 < (l1.length : Int)) = true := decide_eq_true c6
              clear c6
              by_cases c7 : (rd l0 x5_1) = (rd l1 x5_1)
              · rw [if_pos c7] at H
                have c7b0 : ((rd l0 x5_1) == (rd l1 x5_1)) = true := beq_iff_eq.mpr c7
                have c7b1 : ((rd l0 x5_1) != (rd l1 x5_1)) = false := bne_eq_false_iff_eq.mpr c7
                clear c7
                have H' := Aside0.mk H
                clear H
                have p163 : 0 ≤ (x5_1 : Int) := of_decide_eq_true (by first | (with_reducible assumption) | assumption)
                have q163 : x5_1 < (l0.length : Int) := of_decide_eq_true (by first | (with_reducible assumption) | assumption)
                obtain ⟨ad163, e163, hx163_0⟩ := Kd.at_int HR0.out x5_1 p163 q163
                cases e163
                replace p163 := eq_true p163
                replace q163 := eq_true q163
                have p164 : 0 ≤ (x5_1 : Int) := of_decide_eq_true (by first | (with_reducible assumption) | assumption)
                have q164 : x5_1 < (l1.length : Int) := of_decide_eq_true (by first | (with_reducible assumption) | assumption)
                obtain ⟨ad164, e164, hx164_0⟩ := Kd.at_int HR1.out x5_1 p164 q164
                cases e164
                replace p164 := eq_true p164
                replace q164 := eq_true q164
                go_wp2
                repeat (go_quiet (fail); try go_wp2)
                go_roundg k1
                case measure => have := HK1.out; omega
                case rel => exact ⟨(wrap64 (x5_1 + 1)), (by first | rfl | (simp; done) | (simp [*]; done)), H', ⟨by have := HK1.out; omega⟩, by repeat (first | exact Drawn0.refl _ | apply Drawn0.step)⟩
              · rw [if_neg c7] at H
                have c7b0 : ((rd l0 x5_1) == (rd l1 x5_1)) = false := beq_eq_false_iff_ne.mpr c7
                have c7b1 : ((rd l0 x5_1) != (rd l1 x5_1)) = true := bne_iff_ne.mpr c7
                obtain rfl := Option.some.inj H
                have p163 : 0 ≤ (x5_1 : Int) := of_decide_eq_true (by first | (with_reducible assumption) | assumption)
                have q163 : x5_1 < (l0.length : Int) := of_decide_eq_true (by first | (with_reducible assumption) | assumption)
                obtain ⟨ad163, e163, hx163_0⟩ := Kd.at_int HR0.out x5_1 p163 q163
                cases e163
                replace p163 := eq_true p163
                replace q163 := eq_true q163
                have p164 : 0 ≤ (x5_1 : Int) := of_decide_eq_true (by first | (with_reducible assumption) | assumption)
                have q164 : x5_1 < (l1.length : Int) := of_decide_eq_true (by first | (with_reducible assumption) | assumption)
                obtain ⟨ad164, e164, hx164_0⟩ := Kd.at_int HR1.out x5_1 p164 q164
                cases e164
                replace p164 := eq_true p164
                replace q164 := eq_true q164
                go_wp2
                repeat (go_quiet (fail); try go_wp2)
                go_ret
                exact ⟨by first | rfl | (simp; done) | (simp [*]; done), by repeat (first | exact Drawn0.refl _ | apply Drawn0.step)⟩
            · rw [if_neg c6] at H
              exact absurd H (by simp)
          · rw [if_neg c5] at H
            exact absurd H (by simp)
        · rw [if_neg c4] at H
          have c4b0 : decide (x5_1 < (l0.length : Int)) = false := decide_eq_false c4
          clear c4
          obtain rfl := Option.some.inj H
          go_wp2
          repeat (go_quiet (fail); try go_wp2)
          go_ret
          exact ⟨by first | rfl | (simp; done) | (simp [*]; done), by repeat (first | exact Drawn0.refl _ | apply Drawn0.step)⟩
  · rw [if_neg c3] at H
    have c3b0 : ((l0.length : Int) == (l1.length : Int)) = false := beq_eq_false_iff_ne.mpr c3
    have c3b1 : ((l0.length : Int) != (l1.length : Int)) = true := bne_iff_ne.mpr c3
    have c3b2 : (l0.length == l1.length) = false := by first | simpa using c3 | (simp at c3 ⊢; omega)
    obtain rfl := Option.some.inj H
    go_enter Tryd.func31, Tryd.ntmps31
    go_wp2
    repeat (go_quiet (fail); try go_wp2)
    go_ret
    exact ⟨by first | rfl | (simp; done) | (simp [*]; done), by repeat (first | exact Drawn0.refl _ | apply Drawn0.step)⟩
end Go.Proofs.YtggpejjfgphihaaDoor.D
end

section
namespace Go.Proofs.YtggpejjfgphihaaDoor.Pu
open Go.RowKit Go.Proofs.YtggpejjfgphihaaDoorW.PrintWords
open Go.Proofs.YtggpejjfgphihaaDoor.Given Go.Proofs.YtggpejjfgphihaaDoor.D
set_option linter.unusedVariables false
def ofN (B : List Nat) : List Int := B.map fun (n : Nat) => (n : Int)
theorem ofN_length (B : List Nat) : (ofN B).length = B.length := by simp [ofN]
theorem ofN_take (n : Nat) (B : List Nat) : (ofN B).take n = ofN (B.take n) := by simp [ofN]
theorem ofN_drop (n : Nat) (B : List Nat) : (ofN B).drop n = ofN (B.drop n) := by simp [ofN]
theorem ofN_of {l : List Int} (h : l.all okByte = true) : l = ofN (l.map Int.toNat) := by
  induction l with
  | nil => rfl
  | cons c l ih =>
    have h' := h
    simp only [List.all_cons, Bool.and_eq_true] at h'
    have := h'.1
    simp [okByte] at this
    simp only [ofN, List.map_cons] at ih ⊢
    rw [← ih h'.2]
    congr 1
    omega
theorem ofN_rd (B : List Nat) (i : Nat) (hi : i < B.length) : rd (ofN B) (i : Int) = ((B[i] : Nat) : Int) := by
  simp [rd, ofN, hi]
theorem w64 (n : Nat) (h : n < 9223372036854775808) : wrap64 (n : Int) = (n : Int) := by unfold wrap64; omega
theorem tmod2 (x : Nat) : Int.tmod (x : Int) 2 = ((x % 2 : Nat) : Int) := rfl
theorem tdivN (x : Nat) (n : Nat) : Int.tdiv (x : Int) (n : Int) = ((x / n : Nat) : Int) := rfl
theorem equal_go (A B : List Nat) (hl : A.length = B.length) (hb : A.length < 4611686018427387904) : ∀ (n i k : Nat), A.length = i + n →
    marlineref01_Equal.l0 (k + n + 1) (ofN A) (ofN B) (i : Int) = some (decide (A.drop i = B.drop i)) := by
  intro n
  induction n with
  | zero =>
    intro i k he
    rw [marlineref01_Equal.l0, if_neg (by rw [ofN_length]; omega), List.drop_eq_nil_of_le (by omega), List.drop_eq_nil_of_le (by omega)]; rfl
  | succ n ih =>
    intro i k he
    have ha : i < A.length := by omega
    have hb' : i < B.length := by omega
    rw [show k + (n + 1) + 1 = (k + n + 1) + 1 by omega, marlineref01_Equal.l0, if_pos (by rw [ofN_length]; omega), if_pos (by omega), if_pos (by rw [ofN_length]; omega), ofN_rd A i ha, ofN_rd B i hb']
    rw [show wrap64 ((i : Int) + 1) = ((i + 1 : Nat) : Int) by unfold wrap64; omega, ih (i + 1) k (by omega), List.drop_eq_getElem_cons ha, List.drop_eq_getElem_cons hb']
    by_cases h : A[i] = B[i]
    · rw [if_pos (by omega)]; simp only [h, List.cons.injEq, true_and]
    · rw [if_neg (by omega)]; simp only [List.cons.injEq, h, false_and, decide_false]
theorem r_Equal (k : Nat) (A B : List Nat) (hb : A.length < 4611686018427387904) (hk : A.length + 1 ≤ k) :
    marlineref01_Equal.f k (ofN A) (ofN B) = some (decide (A = B)) := by
  obtain ⟨m, rfl⟩ : ∃ m, k = m + A.length + 1 := ⟨k - (A.length + 1), by omega⟩
  unfold marlineref01_Equal.f
  rw [ofN_length, ofN_length]
  by_cases h : A.length = B.length
  · rw [if_pos (by omega)]
    exact equal_go A B h hb A.length 0 m (by omega)
  · rw [if_neg (by omega)]
    have : A ≠ B := fun e => h (by rw [e])
    simp [this]
end Go.Proofs.YtggpejjfgphihaaDoor.Pu
end

section
namespace Go.Proofs.YtggpejjfgphihaaDoor.H
open Go.Proofs.YtggpejjfgphihaaDoor.Given Go.Proofs.YtggpejjfgphihaaDoor.D Go.RowKit Go.Proofs.YtggpejjfgphihaaDoorW.PrintWords Go.Proofs.YtggpejjfgphihaaDoorW.PrintLast Go.Proofs.YtggpejjfgphihaaDoorW.PrintMore
attribute [local go_sem] max2_int min2_int max_two min_two max_three min_three max_four min_four
set_option linter.unusedVariables false
set_option linter.unusedSimpArgs false
def errW : Option Int → Value
  | none => .nilIface
  | some c => .iface 0 (.int .i64 c)
theorem errW_none : errW none = .nilIface := rfl
theorem errW_some (c : Int) : errW (some c) = .iface 0 (.int .i64 c) := rfl
theorem info5 : (Tryd.prog.info? 5).map (fun i => (i.zero, i.size, i.bytes)) = some (some (.int .u8 0), 1, 1) := by kernel_rfl
theorem info35 : (Tryd.prog.info? 35).map (fun i => (i.zero, i.size, i.bytes)) = some (some (.slice none 0 0), 1, 24) := by kernel_rfl
def rd_L1 (xs : List (List Int)) (i : Int) : (List Int) := xs.getD i.toNat ([] : List Int)
theorem at_L1 {w : World} {A : Option Addr} {n : Nat} {xs : List (List Int)} (h : Kd.C (Kd.slice 5 (Kd.int .u8)) w A n xs) (i : Int) (h0 : 0 ≤ i) (h1 : i < n) : ∃ ad A0 c0, A = some ad ∧ w.cell? (ad.add i.toNat) = some (.slice A0 (rd_L1 xs i).length c0) ∧ (rd_L1 xs i).length ≤ c0 ∧ (Kd.int .u8).C w A0 (rd_L1 xs i).length (rd_L1 xs i) := by
  obtain ⟨ad, c, e, _, hK, hc0⟩ := Kd.C_get h ([] : List Int) i h0 h1
  have hc : ∀ j u, c[j]? = some u → w.cell? (ad.add (i.toNat * 1 + j)) = some u := hc0
  obtain ⟨A0, c0, rfl, l0, g0⟩ := hK
  exact ⟨ad, A0, c0, e, by have hq := hc 0 _ rfl; rwa [Nat.mul_one, Nat.add_zero] at hq, l0, g0⟩
end Go.Proofs.YtggpejjfgphihaaDoor.H
end

section
namespace Go.Proofs.YtggpejjfgphihaaDoor.H
open Go.Proofs.YtggpejjfgphihaaDoor.Given Go.Proofs.YtggpejjfgphihaaDoor.D Go.RowKit Go.Proofs.YtggpejjfgphihaaDoorW.PrintWords Go.Proofs.YtggpejjfgphihaaDoorW.PrintLast Go.Proofs.YtggpejjfgphihaaDoorW.PrintMore
attribute [local go_sem] max2_int min2_int max_two min_two max_three min_three max_four min_four
set_option linter.unusedVariables false
set_option linter.unusedSimpArgs false
def wire_Put.l0 : Nat → List Int → Int → Int → Option (List Int)
  | 0, _, _, _ => none
  | k + 1, x0, x1, x7 => if x7 ≥ 0 then (if 0 ≤ (wrap64 (8 * x7)) then (if x0.length < 140737488355328 then (wire_Put.l0 k (x0 ++ [(shr .u64 x1 (wrap64 (8 * x7))) % 256]) x1 (wrap64 (x7 - 1))) else (none)) else (none)) else (some x0)
def wire_Put.f (k : Nat) (l0 : List Int) (a1 : Int) (a2 : Int) : Option (List Int) := wire_Put.l0 k l0 a1 (wrap64 (a2 - 1))
set_option maxHeartbeats 8000000 in
set_option maxRecDepth 100000 in
theorem wire_Put.calls (k : Nat) (P0_ : Nat → Prop) (u9000_ : Value) (l0 : List Int) (a1 : Int) (a2 : Int) (r : List Int) (w0 w : World) (hB : Below w0.heap.size w0 w) (ho0 : Kd.R (Kd.int .u8) 5 w w0.heap.size P0_ u9000_ l0) (h : wire_Put.f k l0 a1 a2 = some r) :
    Calls Tryd.prog 79 #[u9000_, .int .u64 a1, .int .i64 a2] w fun e w' => ∃ v0_ : Value, e = .returned (v0_) ∧ Kd.R (Kd.int .u8) 5 w' w0.heap.size (fun k_ => (P0_ k_ ∨ w.heap.size ≤ k_)) v0_ r ∧ Below w0.heap.size w0 w' ∧ Kept w w' (fun k_ => P0_ k_) := by
  have HO0 := Aside0.mk (show Kd.R (Kd.int .u8) 5 w w0.heap.size (fun k_ => (P0_ k_ ∨ w.heap.size ≤ k_)) u9000_ l0 from Kd.R_mono ho0 (fun k_ hk => (.inl hk)))
  have HK := Aside0.mk (Kept.refl w (fun k_ => P0_ k_))
  have HW0 := Aside0.mk hB.size
  have HB := Aside0.mk hB
  clear hB
  have H : (wire_Put.l0 k l0 a1 (wrap64 (a2 - 1))) = some r := h
  clear h
  have H' := Aside0.mk H
  clear H
  go_enter Tryd.func79, Tryd.ntmps79
  go_wp2
  go_loopg [0, 7] k (fun kq v0 v7 w' => ∃ (x0_1 : List Int) (x7_1 : Int), v7 = .int .i64 x7_1 ∧ Aside0 (wire_Put.l0 kq x0_1 a1 x7_1 = some r) ∧ Aside0 (kq ≤ k) ∧ Aside0 (Kd.R (Kd.int .u8) 5 w' w0.heap.size (fun k_ => (P0_ k_ ∨ w.heap.size ≤ k_)) v0 x0_1) ∧ Aside0 (Kept w w' (fun k_ => P0_ k_)) ∧ Aside0 (Below w0.heap.size w0 w'))
  case atStart => exact ⟨(l0), (wrap64 (a2 - 1)), (by first | rfl | (simp; done) | (simp [*]; done)), H', ⟨Nat.le_refl _⟩, ⟨by (with_reducible repeat (first | apply Kd.R_alloc | apply Kd.R_drewN | apply Kd.R_drew)); exact HO0.out⟩, ⟨by repeat (first | (with_reducible first | exact HK.out | apply Kept.alloc | apply Kept.drewN | apply Kept.drew) | exact HK.out)⟩, ⟨by repeat (first | (with_reducible first | exact HB.out | apply below_alloc | apply pw_below_drewN | apply below_drew1) | exact HB.out)⟩⟩
  case round =>
    clear H'
    try clear p2
    obtain ⟨x0_1, x7_1, rfl, HA, HK1, HO_0, HK, HB⟩ := hrel
    cases gk with
    | zero => exact absurd HA.out (by simp [wire_Put.l0])
    | succ k1 =>
      have H := HA.out
      clear HA
      simp only [wire_Put.l0] at H
      by_cases c4 : x7_1 ≥ 0
      · rw [if_pos c4] at H
        have c4b0 : decide (0 ≤ x7_1) = true := decide_eq_true c4
        clear c4
        obtain ⟨ji5, hji5⟩ : ∃ j_ : Int, (wrap64 (8 * x7_1)) = j_ := ⟨_, rfl⟩
        replace H : (if 0 ≤ (ji5) then (if x0_1.length < 140737488355328 then (wire_Put.l0 k1 (x0_1 ++ [(shr .u64 a1 (ji5)) % 256]) a1 (wrap64 (x7_1 - 1))) else (none)) else (none)) = some r := by first | (rw [hji5] at H; exact H) | (simp only [hji5] at H ⊢; exact H)
        have hji5w : (IntKind.i64.wrap (8 * x7_1)) = ji5 := (i64_w _).trans hji5
        by_cases c6 : 0 ≤ (ji5)
        · rw [if_pos c6] at H
          have c6b0 := eq_true c6
          have c6b1 : decide (0 ≤ (ji5)) = true := decide_eq_true c6
          clear c6
          obtain ⟨ji7, hji7⟩ : ∃ j_ : Int, (shr .u64 a1 (ji5)) = j_ := ⟨_, rfl⟩
          replace H : (if x0_1.length < 140737488355328 then (wire_Put.l0 k1 (x0_1 ++ [(ji7) % 256]) a1 (wrap64 (x7_1 - 1))) else (none)) = some r := by first | (rw [hji7] at H; exact H) | (simp only [hji7] at H ⊢; exact H)
          have hji7_ : (a1 / 2 ^ min (ji5).toNat 64) = ji7 := hji7
          have hji7z : (ji5) ≤ 64 → (a1 / 2 ^ (ji5).toNat) = ji7 := shr_small hji7
          by_cases c8 : x0_1.length < 140737488355328
          · rw [if_pos c8] at H
            have LMc8 := Aside0.mk c8
            clear c8
            obtain ⟨y101, hy101⟩ : ∃ y_ : List Int, y_ = (x0_1 ++ [(ji7) % 256]) := ⟨_, rfl⟩
            replace H : (wire_Put.l0 k1 y101 a1 (wrap64 (x7_1 - 1))) = some r := by first | (rw [hy101]; with_reducible exact H) | (have H2_ := (Option.bind_some _ _).symm.trans H; rw [hy101]; with_reducible exact H2_) | (have H2_ := (Option.bind_some _ _).symm.trans H; with_reducible exact H2_) | with_reducible exact H | (rw [hy101]; exact H) | exact H
            have Ny101 := Aside0.mk hy101
            clear hy101
            have H' := Aside0.mk H
            clear H
            go_wp2_with (first | ((with_reducible refine gate_builtin (b := .append) (xs := #[.tmp 14, .tmp 20]) rfl ?_); at_builtin; refine Kd.R_append (Kd.int .u8) (w0 := w0) w0.heap.size rfl (.tmp 14) (.tmp 20) 35 5 (.int .u8 0) 1 rfl Tryd.underlying35 info5 rfl (by decide) (by omega) u0 x0_1 ((ji7) % 256) [.int .u8 ((ji7) % 256)] (fun k_ => (P0_ k_ ∨ w.heap.size ≤ k_)) (fun _ => False) rfl rfl ?aP (fun _ hk => hk.elim) ?aF ?aO ?aB ?aS ?aL ?_; (case aP => exact rfl); (case aB => exact (by repeat (first | (with_reducible first | exact HB.out | apply below_alloc | apply pw_below_drewN | apply below_drew1) | exact HB.out))); (case aF => exact (fun k_ hk => (.inr (Nat.le_trans (by first | exact HK.out.1 | exact (show Kept w _ (fun k_ => P0_ k_) from by repeat (first | (with_reducible first | exact HK.out | apply Kept.alloc | apply Kept.drewN | apply Kept.drew) | exact HK.out)).1) hk)))); (case aO => exact (by (with_reducible repeat (first | apply Kd.R_alloc | apply Kd.R_drewN | apply Kd.R_drew)); exact HO_0.out)); (case aS => exact (below_size (by repeat (first | (with_reducible first | exact HB.out | apply below_alloc | apply pw_below_drewN | apply below_drew1) | exact HB.out)))); (case aL => have := LMc8.out; omega); intro v102 w9 ho hb hg hat; rw [← Ny101.out] at ho; have n0_ := Aside0.mk (hb); have n1_ := Aside0.mk (Kept.of_grown (S := (fun k_ => P0_ k_)) hg (by repeat (first | (with_reducible first | exact HK.out | apply Kept.alloc | apply Kept.drewN | apply Kept.drew) | exact HK.out)) (fun k_ e_ => (HO_0.out.1 k_ e_))); have n2_ := Aside0.mk (ho); clear HB; clear HK; clear HO_0; have HB := n0_; have HK := n1_; have HO103 := n2_; clear n0_ n1_ n2_; clear ho hb hg hat))
            go_roundg k1
            case measure => have := HK1.out; omega
            case rel => exact ⟨(y101), (wrap64 (x7_1 - 1)), (by first | rfl | (simp; done) | (simp [*]; done)), H', ⟨by have := HK1.out; omega⟩, ⟨by (with_reducible repeat (first | apply Kd.R_alloc | apply Kd.R_drewN | apply Kd.R_drew)); exact HO103.out⟩, ⟨by repeat (first | (with_reducible first | exact HK.out | apply Kept.alloc | apply Kept.drewN | apply Kept.drew) | exact HK.out)⟩, ⟨by repeat (first | (with_reducible first | exact HB.out | apply below_alloc | apply pw_below_drewN | apply below_drew1) | exact HB.out)⟩⟩
          · rw [if_neg c8] at H
            exact absurd H (by simp)
        · rw [if_neg c6] at H
          exact absurd H (by simp)
      · rw [if_neg c4] at H
        have c4b0 : decide (0 ≤ x7_1) = false := decide_eq_false c4
        clear c4
        obtain rfl := Option.some.inj H
        go_wp2
        go_ret
        exact ⟨_, by first | rfl | (simp [errW_none, errW_some] <;> rfl) | (simp [*, errW_none, errW_some] <;> rfl), by (with_reducible repeat (first | apply Kd.R_alloc | apply Kd.R_drewN | apply Kd.R_drew)); exact HO_0.out, by repeat (first | (with_reducible first | exact HB.out | apply below_alloc | apply pw_below_drewN | apply below_drew1) | exact HB.out), by repeat (first | (with_reducible first | exact HK.out | apply Kept.alloc | apply Kept.drewN | apply Kept.drew) | exact HK.out)⟩
def proto_Short.f (a0 : Int) : Option (Bool) := some (decide (a0 < 256))
set_option maxHeartbeats 8000000 in
set_option maxRecDepth 100000 in
theorem proto_Short.calls (a0 : Int) (r : Bool) (w : World) (h : proto_Short.f a0 = some r) :
    Calls Tryd.prog 80 #[.int .u16 a0] w fun e w' => e = .returned (.bool r) ∧ Drawn0 w w' := by
  have H : (some (decide (a0 < 256))) = some r := h
  clear h
  obtain rfl := Option.some.inj H
  go_enter Tryd.func80, Tryd.ntmps80
  go_wp2
  go_ret
  exact ⟨by first | rfl | (simp; done) | (simp [*]; done), by repeat (first | exact Drawn0.refl _ | apply Drawn0.step)⟩
def proto_Put.f (k : Nat) (a0 : Int) (a1 : Bool) : Option (List Int) := (wire_Put.f k ([] : List Int) (IntKind.u64.wrap (a0)) 2).bind fun t104 => (if a1 = true then ((proto_Short.f a0).bind fun t107 => (if t107 = true then (if 1 ≤ (t104.length : Int) then (some (t104.drop (1 : Int).toNat)) else (none)) else (some t104))) else (some t104))
set_option maxHeartbeats 8000000 in
set_option maxRecDepth 100000 in
theorem proto_Put.calls (k : Nat) (a0 : Int) (a1 : Bool) (r : List Int) (w : World) (h : proto_Put.f k a0 a1 = some r) :
    Calls Tryd.prog 60 #[.int .u16 a0, .bool a1] w fun e w' => ∃ v0_ : Value, e = .returned (v0_) ∧ Kd.Q (Kd.int .u8) 5 w' w.heap.size (fun _ => True) v0_ r ∧ Below w.heap.size w w' := by
  have HB := Aside0.mk (Below.refl w.heap.size w)
  have H : ((wire_Put.f k ([] : List Int) (IntKind.u64.wrap (a0)) 2).bind fun t104 => (if a1 = true then ((proto_Short.f a0).bind fun t107 => (if t107 = true then (if 1 ≤ (t104.length : Int) then (some (t104.drop (1 : Int).toNat)) else (none)) else (some t104))) else (some t104))) = some r := h
  clear h
  replace H := Option.bind_eq_some_iff.mp H
  obtain ⟨t104, A30, H⟩ := H
  replace H : (if a1 = true then ((proto_Short.f a0).bind fun t107 => (if t107 = true then (if 1 ≤ (t104.length : Int) then (some (t104.drop (1 : Int).toNat)) else (none)) else (some t104))) else (some t104)) = some r := H
  have A3 := Aside0.mk A30
  clear A30
  by_cases c4 : a1 = true
  · subst c4
    have H1 : ((proto_Short.f a0).bind fun t107 => (if t107 = true then (if 1 ≤ (t104.length : Int) then (some (t104.drop (1 : Int).toNat)) else (none)) else (some t104))) = some r := by rw [if_pos rfl] at H; exact H
    clear H
    have H := H1
    clear H1
    replace H := Option.bind_eq_some_iff.mp H
    obtain ⟨t107, A50, H⟩ := H
    replace H : (if t107 = true then (if 1 ≤ (t104.length : Int) then (some (t104.drop (1 : Int).toNat)) else (none)) else (some t104)) = some r := H
    have A5 := Aside0.mk A50
    clear A50
    by_cases c6 : t107 = true
    · subst c6
      have H1 : (if 1 ≤ (t104.length : Int) then (some (t104.drop (1 : Int).toNat)) else (none)) = some r := by rw [if_pos rfl] at H; exact H
      clear H
      have H := H1
      clear H1
      by_cases c7 : 1 ≤ (t104.length : Int)
      · rw [if_pos c7] at H
        have c7b0 := eq_true c7
        have c7b1 : decide (1 ≤ (t104.length : Int)) = true := decide_eq_true c7
        clear c7
        obtain ⟨y108, hy108⟩ : ∃ y_ : List Int, y_ = (t104.drop (1 : Int).toNat) := ⟨_, rfl⟩
        replace H : (some y108) = some r := by first | (rw [hy108]; with_reducible exact H) | (have H2_ := (Option.bind_some _ _).symm.trans H; rw [hy108]; with_reducible exact H2_) | (have H2_ := (Option.bind_some _ _).symm.trans H; with_reducible exact H2_) | with_reducible exact H | (rw [hy108]; exact H) | exact H
        have Ny108 := Aside0.mk hy108
        clear hy108
        obtain rfl := Option.some.inj H
        go_enter Tryd.func60, Tryd.ntmps60
        go_wp2_with (first | ((with_reducible refine gate_callee (f := 79) rfl ?_); refine goesL_ (some 8) rfl rfl Tryd.func79 (by kernel_rfl) rfl #[.slice none 0 0, .int .u64 (IntKind.u64.wrap (a0)), .int .i64 2] rfl (by (try simp only [List.map_toArray, List.map_cons, List.map_nil]); first | done | rfl | (simp only [List.length_drop, List.length_take]; rfl)) ?_; (refine (wire_Put.calls k (fun k_ => some k_ = (.slice none 0 0 : Value).ownBlock) (.slice none 0 0) ([] : List Int) (IntKind.u64.wrap (a0)) 2 t104 w _ ?side1 ?side2 A3.out).mono ?_); (case side1 => repeat (first | (with_reducible first | exact HB.out | apply below_alloc | apply pw_below_drewN | apply below_drew1) | exact HB.out)); (case side2 => exact Kd.R_nil _ _ _ _ _); rintro e w8 ⟨v105, rfl, ho0, hb, hkp⟩; refine ⟨_, rfl, ?_⟩; have n0_ := Aside0.mk (Kd.R_mono (ok' := fun k_ => True) ho0 (fun k_ hk_ => trivial)); have n1_ := Aside0.mk (hb); clear HB; have HO106 := n0_; have HB := n1_; clear n0_ n1_; (try clear hb); (try clear hkp); (try clear ho0)) | (go_at_call 80; (with_reducible refine (proto_Short.calls a0 true _ A5.out).mono ?_); rintro e w' ⟨rfl, ⟨nd, rfl⟩⟩; obtain ⟨Ao9, co9, eo9⟩ := Kd.R_slice HO106.out; subst eo9; have q10 : (1 : Int) ≤ ((t104.length : Int) : Int) := of_decide_eq_true (by first | (with_reducible assumption) | assumption); obtain ⟨i010, hi010, _, hsz10, _⟩ := info_parts info5; have hcut10 := cut_from (P := Tryd.prog) 35 5 .i64 Tryd.underlying35 hi010 1 hsz10 Ao9 t104.length co9 1 (by omega) q10; have hr10 := Kd.Q_drop (k := (1 : Int).toNat) (Kd.Q_of_R HO106.out) (by omega); obtain ⟨A10, hA10⟩ : ∃ A1, A1 = (if co9 = (1 : Int).toNat then Ao9 else (Ao9 : Option Addr).map (·.add ((1 : Int).toNat * 1))) := ⟨_, rfl⟩; obtain ⟨c10, hc10⟩ : ∃ c1, c1 = co9 - (1 : Int).toNat := ⟨_, rfl⟩; have hy10 : y108.length = t104.length - (1 : Int).toNat := (by rw [Ny108.out, List.length_drop]); rw [← Ny108.out] at hr10; rw [← hy10, ← hA10, ← hc10] at hcut10; replace hr10 : Kd.Q (Kd.int .u8) 5 w8 w.heap.size (fun _ => True) (.slice A10 y108.length c10) y108 := (by rw [hA10, hc10, hy10]; exact hr10); have HE10 : Aside0 ((Value.slice A10 y108.length c10).ownBlock = (.slice Ao9 t104.length co9 : Value).ownBlock) := ⟨by rw [hA10]; split <;> (cases (Ao9 : Option Addr) <;> rfl)⟩; clear hy10 hi010 hsz10 HO106 hA10 hc10; have HO110 := Aside0.mk hr10; clear hr10; replace q10 := eq_true q10))
        go_ret
        exact ⟨_, by first | rfl | (simp [errW_none, errW_some] <;> rfl) | (simp [*, errW_none, errW_some] <;> rfl), by (with_reducible repeat (first | apply Kd.Q_alloc | apply Kd.Q_drewN | apply Kd.Q_drew)); exact HO110.out, by repeat (first | (with_reducible first | exact HB.out | apply below_alloc | apply pw_below_drewN | apply below_drew1) | exact HB.out)⟩
      · rw [if_neg c7] at H
        exact absurd H (by simp)
    · replace c6 := Bool.eq_false_iff.mpr c6
      subst c6
      have H1 : (some t104) = some r := by rw [if_neg (show ¬ (false = true) by decide)] at H; exact H
      clear H
      have H := H1
      clear H1
      obtain rfl := Option.some.inj H
      go_enter Tryd.func60, Tryd.ntmps60
      go_wp2_with (first | ((with_reducible refine gate_callee (f := 79) rfl ?_); refine goesL_ (some 8) rfl rfl Tryd.func79 (by kernel_rfl) rfl #[.slice none 0 0, .int .u64 (IntKind.u64.wrap (a0)), .int .i64 2] rfl (by (try simp only [List.map_toArray, List.map_cons, List.map_nil]); first | done | rfl | (simp only [List.length_drop, List.length_take]; rfl)) ?_; (refine (wire_Put.calls k (fun k_ => some k_ = (.slice none 0 0 : Value).ownBlock) (.slice none 0 0) ([] : List Int) (IntKind.u64.wrap (a0)) 2 t104 w _ ?side1 ?side2 A3.out).mono ?_); (case side1 => repeat (first | (with_reducible first | exact HB.out | apply below_alloc | apply pw_below_drewN | apply below_drew1) | exact HB.out)); (case side2 => exact Kd.R_nil _ _ _ _ _); rintro e w11 ⟨v105, rfl, ho0, hb, hkp⟩; refine ⟨_, rfl, ?_⟩; have n0_ := Aside0.mk (Kd.R_mono (ok' := fun k_ => True) ho0 (fun k_ hk_ => trivial)); have n1_ := Aside0.mk (hb); clear HB; have HO106 := n0_; have HB := n1_; clear n0_ n1_; (try clear hb); (try clear hkp); (try clear ho0)) | (go_at_call 80; (with_reducible refine (proto_Short.calls a0 false _ A5.out).mono ?_); rintro e w' ⟨rfl, ⟨nd, rfl⟩⟩))
      go_ret
      exact ⟨_, by first | rfl | (simp [errW_none, errW_some] <;> rfl) | (simp [*, errW_none, errW_some] <;> rfl), Kd.Q_of_R (by (with_reducible repeat (first | apply Kd.R_alloc | apply Kd.R_drewN | apply Kd.R_drew)); exact HO106.out), by repeat (first | (with_reducible first | exact HB.out | apply below_alloc | apply pw_below_drewN | apply below_drew1) | exact HB.out)⟩
  · replace c4 := Bool.eq_false_iff.mpr c4
    subst c4
    have H1 : (some t104) = some r := by rw [if_neg (show ¬ (false = true) by decide)] at H; exact H
    clear H
    have H := H1
    clear H1
    obtain rfl := Option.some.inj H
    go_enter Tryd.func60, Tryd.ntmps60
    go_wp2_with (first | ((with_reducible refine gate_callee (f := 79) rfl ?_); refine goesL_ (some 8) rfl rfl Tryd.func79 (by kernel_rfl) rfl #[.slice none 0 0, .int .u64 (IntKind.u64.wrap (a0)), .int .i64 2] rfl (by (try simp only [List.map_toArray, List.map_cons, List.map_nil]); first | done | rfl | (simp only [List.length_drop, List.length_take]; rfl)) ?_; (refine (wire_Put.calls k (fun k_ => some k_ = (.slice none 0 0 : Value).ownBlock) (.slice none 0 0) ([] : List Int) (IntKind.u64.wrap (a0)) 2 t104 w _ ?side1 ?side2 A3.out).mono ?_); (case side1 => repeat (first | (with_reducible first | exact HB.out | apply below_alloc | apply pw_below_drewN | apply below_drew1) | exact HB.out)); (case side2 => exact Kd.R_nil _ _ _ _ _); rintro e w12 ⟨v105, rfl, ho0, hb, hkp⟩; refine ⟨_, rfl, ?_⟩; have n0_ := Aside0.mk (Kd.R_mono (ok' := fun k_ => True) ho0 (fun k_ hk_ => trivial)); have n1_ := Aside0.mk (hb); clear HB; have HO106 := n0_; have HB := n1_; clear n0_ n1_; (try clear hb); (try clear hkp); (try clear ho0)))
    go_ret
    exact ⟨_, by first | rfl | (simp [errW_none, errW_some] <;> rfl) | (simp [*, errW_none, errW_some] <;> rfl), Kd.Q_of_R (by (with_reducible repeat (first | apply Kd.R_alloc | apply Kd.R_drewN | apply Kd.R_drew)); exact HO106.out), by repeat (first | (with_reducible first | exact HB.out | apply below_alloc | apply pw_below_drewN | apply below_drew1) | exact HB.out)⟩
def bytes_Equal.f (l0 : List Int) (l1 : List Int) : Option (Bool) := some ((strOfNums l0).toList == (strOfNums l1).toList)
set_option maxHeartbeats 8000000 in
set_option maxRecDepth 100000 in
theorem bytes_Equal.calls (A0 : Option Addr) (c0 : Nat) (l0 : List Int) (A1 : Option Addr) (c1 : Nat) (l1 : List Int) (r : Bool) (w : World) (hr0 : Kd.C (Kd.int .u8) w A0 l0.length l0) (hc0 : l0.length ≤ c0) (hr1 : Kd.C (Kd.int .u8) w A1 l1.length l1) (hc1 : l1.length ≤ c1) (h : bytes_Equal.f l0 l1 = some r) :
    Calls Tryd.prog 67 #[.slice A0 l0.length c0, .slice A1 l1.length c1] w fun e w' => e = .returned (.bool r) ∧ Drawn0 w w' := by
  have HR0 := Aside0.mk hr0
  have HC0 := Aside0.mk hc0
  clear hr0 hc0
  have HR1 := Aside0.mk hr1
  have HC1 := Aside0.mk hc1
  clear hr1 hc1
  have H : (some ((strOfNums l0).toList == (strOfNums l1).toList)) = some r := h
  clear h
  obtain rfl := Option.some.inj H
  have hcv3 := Kd.C_string (P := Tryd.prog) (A := A0) (c := c0) Tryd.underlying35 Tryd.underlying5 Tryd.underlying9 HR0.out
  have hcv4 := Kd.C_string (P := Tryd.prog) (A := A1) (c := c1) Tryd.underlying35 Tryd.underlying5 Tryd.underlying9 HR1.out
  go_enter Tryd.func67, Tryd.ntmps67
  go_wp2
  go_ret
  exact ⟨by first | rfl | (simp; done) | (simp [*]; done), by repeat (first | exact Drawn0.refl _ | apply Drawn0.step)⟩
def bytes_HasPrefix.f (l0 : List Int) (l1 : List Int) : Option (Bool) := if (l0.length : Int) ≥ (l1.length : Int) then (if 0 ≤ (l1.length : Int) then (if (l1.length : Int) ≤ (l0.length : Int) then ((bytes_Equal.f (l0.take ((l1.length : Int) : Int).toNat) l1).bind fun t116 => (some t116)) else (none)) else (none)) else (some false)
set_option maxHeartbeats 8000000 in
set_option maxRecDepth 100000 in
theorem bytes_HasPrefix.calls (A0 : Option Addr) (c0 : Nat) (l0 : List Int) (A1 : Option Addr) (c1 : Nat) (l1 : List Int) (r : Bool) (w : World) (hr0 : Kd.C (Kd.int .u8) w A0 l0.length l0) (hc0 : l0.length ≤ c0) (hr1 : Kd.C (Kd.int .u8) w A1 l1.length l1) (hc1 : l1.length ≤ c1) (h : bytes_HasPrefix.f l0 l1 = some r) :
    Calls Tryd.prog 77 #[.slice A0 l0.length c0, .slice A1 l1.length c1] w fun e w' => e = .returned (.bool r) ∧ Drawn0 w w' := by
  have HR0 := Aside0.mk hr0
  have HC0 := Aside0.mk hc0
  clear hr0 hc0
  have HR1 := Aside0.mk hr1
  have HC1 := Aside0.mk hc1
  clear hr1 hc1
  have H : (if (l0.length : Int) ≥ (l1.length : Int) then (if 0 ≤ (l1.length : Int) then (if (l1.length : Int) ≤ (l0.length : Int) then ((bytes_Equal.f (l0.take ((l1.length : Int) : Int).toNat) l1).bind fun t116 => (some t116)) else (none)) else (none)) else (some false)) = some r := h
  obtain ⟨cm1, hcm1⟩ : ∃ m_ : List Int, m_ = (l0.take ((l1.length : Int) : Int).toNat) := ⟨_, rfl⟩
  (try rw [← hcm1] at H)
  have HCM1 := Aside0.mk hcm1
  clear hcm1
  clear h
  by_cases c3 : (l0.length : Int) ≥ (l1.length : Int)
  · rw [if_pos c3] at H
    have c3b0 : decide ((l1.length : Int) ≤ (l0.length : Int)) = true := decide_eq_true c3
    have c3b1 : decide (l1.length ≤ l0.length) = true := decide_eq_true (Int.ofNat_le.mp c3)
    clear c3
    by_cases c4 : 0 ≤ (l1.length : Int)
    · rw [if_pos c4] at H
      have c4b0 := eq_true c4
      have c4b1 : decide (0 ≤ (l1.length : Int)) = true := decide_eq_true c4
      clear c4
      by_cases c5 : (l1.length : Int) ≤ (l0.length : Int)
      · rw [if_pos c5] at H
        have c5b0 := eq_true c5
        have c5b1 : decide ((l1.length : Int) ≤ (l0.length : Int)) = true := decide_eq_true c5
        clear c5
        replace H := Option.bind_eq_some_iff.mp H
        obtain ⟨t116, A60, H⟩ := H
        replace H : (some t116) = some r := H
        have A6 := Aside0.mk A60
        clear A60
        obtain rfl := Option.some.inj H
        obtain ⟨i07, hi07, _, hsz7, _⟩ := info_parts info5
        obtain ⟨hcut7, hA7, hC7⟩ := print_take_of (P := Tryd.prog) (Value.int .u8) 0 35 5 .i64 Tryd.underlying35 hi07 hsz7 A0 c0 l0 (l1.length : Int) (of_decide_eq_true (by first | (with_reducible assumption) | assumption)) (of_decide_eq_true (by first | (with_reducible assumption) | assumption)) HC0.out
        rw [← HCM1.out] at hcut7 hA7 hC7
        have HCM1L := Aside0.mk (show cm1.length = ((l1.length : Int) : Int).toNat by rw [HCM1.out, List.length_take]; have h_ : ((l1.length : Int) : Int) ≤ (l0.length : Int) := of_decide_eq_true (by first | (with_reducible assumption) | assumption); omega)
        have HR115 := Aside0.mk (Kd.C_of_reads (h1 := fun _ => rfl) (hA7 _ (Kd.reads_of_C HR0.out)))
        have HC115 := Aside0.mk hC7
        clear hA7 hC7 hi07 hsz7
        go_enter Tryd.func77, Tryd.ntmps77
        go_wp2_with (first | (go_at_call 67; refine calls_of_args (args' := #[.slice A0 cm1.length c0, .slice A1 l1.length c1]) (by first | (rw [show cm1.length = (l1.length : Int).toNat from HCM1L.out] <;> rfl) |  rfl) ?_; (with_reducible refine (bytes_Equal.calls _ _ cm1 _ _ l1 t116 _ ?side1 ?side2 ?side3 ?side4 A6.out).mono ?_); (case side1 => repeat (first | exact HR115.out | (with_reducible refine Kd.C_alloc ?_ _) | (with_reducible refine Kd.C_drewN ?_ _) | (with_reducible refine Kd.C_drew ?_))); (case side2 => exact HC115.out); (case side3 => repeat (first | exact HR1.out | (with_reducible refine Kd.C_alloc ?_ _) | (with_reducible refine Kd.C_drewN ?_ _) | (with_reducible refine Kd.C_drew ?_))); (case side4 => exact HC1.out); rintro e w' ⟨rfl, ⟨nd, rfl⟩⟩))
        go_ret
        exact ⟨by first | rfl | (simp; done) | (simp [*]; done), by repeat (first | exact Drawn0.refl _ | apply Drawn0.step)⟩
      · rw [if_neg c5] at H
        exact absurd H (by simp)
    · rw [if_neg c4] at H
      exact absurd H (by simp)
  · rw [if_neg c3] at H
    have c3b0 : decide ((l1.length : Int) ≤ (l0.length : Int)) = false := decide_eq_false c3
    have c3b1 : decide (l1.length ≤ l0.length) = false := decide_eq_false (fun h => c3 (Int.ofNat_le.mpr h))
    clear c3
    obtain rfl := Option.some.inj H
    go_enter Tryd.func77, Tryd.ntmps77
    go_wp2
    go_ret
    exact ⟨by first | rfl | (simp; done) | (simp [*]; done), by repeat (first | exact Drawn0.refl _ | apply Drawn0.step)⟩
def proto_Right.f (a0 : Int) : Option (Bool) := if (Go.bits .and .u16 a0 257) = 1 then (some (a0 != 255)) else (some false)
set_option maxHeartbeats 8000000 in
set_option maxRecDepth 100000 in
theorem proto_Right.calls (a0 : Int) (r : Bool) (w : World) (h : proto_Right.f a0 = some r) :
    Calls Tryd.prog 69 #[.int .u16 a0] w fun e w' => e = .returned (.bool r) ∧ Drawn0 w w' := by
  have H : (if (Go.bits .and .u16 a0 257) = 1 then (some (a0 != 255)) else (some false)) = some r := h
  clear h
  by_cases c2 : (Go.bits .and .u16 a0 257) = 1
  · rw [if_pos c2] at H
    have c2b0 : ((Go.bits .and .u16 a0 257) == 1) = true := beq_iff_eq.mpr c2
    have c2b1 : ((Go.bits .and .u16 a0 257) != 1) = false := bne_eq_false_iff_eq.mpr c2
    clear c2
    obtain rfl := Option.some.inj H
    go_enter Tryd.func69, Tryd.ntmps69
    go_wp2
    go_ret
    exact ⟨by first | rfl | (simp; done) | (simp [*]; done), by repeat (first | exact Drawn0.refl _ | apply Drawn0.step)⟩
  · rw [if_neg c2] at H
    have c2b0 : ((Go.bits .and .u16 a0 257) == 1) = false := beq_eq_false_iff_ne.mpr c2
    have c2b1 : ((Go.bits .and .u16 a0 257) != 1) = true := bne_iff_ne.mpr c2
    obtain rfl := Option.some.inj H
    go_enter Tryd.func69, Tryd.ntmps69
    go_wp2
    go_ret
    exact ⟨by first | rfl | (simp; done) | (simp [*]; done), by repeat (first | exact Drawn0.refl _ | apply Drawn0.step)⟩
end Go.Proofs.YtggpejjfgphihaaDoor.H
end

section
namespace Go.Proofs.YtggpejjfgphihaaDoor.Given
open Go.RowKit Go.Proofs.YtggpejjfgphihaaDoorW.PrintWords Go.Proofs.YtggpejjfgphihaaDoorW.PrintLast Go.Proofs.YtggpejjfgphihaaDoorW.PrintMore
open Go.Proofs.YtggpejjfgphihaaDoor.H
set_option linter.unusedVariables false
set_option linter.unusedSimpArgs false
def cutOf (has : Bool) (l0 l1 : List Int) : List Int := if has = true then l0.drop l1.length else l0
theorem prefix_le {l0 l1 : List Int} (h : bytes_HasPrefix.f l0 l1 = some true) : l1.length ≤ l0.length := by
  unfold bytes_HasPrefix.f at h
  by_cases hg : (l1.length : Int) ≤ (l0.length : Int)
  · omega
  · exfalso
    revert h
    simp [hg]
set_option maxHeartbeats 2000000 in
set_option maxRecDepth 100000 in
theorem cutPrefix_calls (A0 : Option Addr) (c0 : Nat) (l0 : List Int) (A1 : Option Addr) (c1 : Nat) (l1 : List Int) (has : Bool) (w : World) (hr0 : Kd.C (Kd.int .u8) w A0 l0.length l0) (hc0 : l0.length ≤ c0) (hr1 : Kd.C (Kd.int .u8) w A1 l1.length l1) (hc1 : l1.length ≤ c1)
    (h : bytes_HasPrefix.f l0 l1 = some has) :
    Calls Tryd.prog 57 #[.slice A0 l0.length c0, .slice A1 l1.length c1] w fun e w' => ∃ (A' : Option Addr) (c' : Nat), e = .returned (.tuple #[.slice A' (cutOf has l0 l1).length c', .bool has]) ∧ Drawn0 w w' ∧ Kd.C (Kd.int .u8) w A' (cutOf has l0 l1).length (cutOf has l0 l1) ∧ (cutOf has l0 l1).length ≤ c' := by
  have HR0 := Aside0.mk hr0
  have HR1 := Aside0.mk hr1
  have HC0 := Aside0.mk hc0
  have HC1 := Aside0.mk hc1
  have HH := Aside0.mk h
  clear hr0 hr1 hc0 hc1
  cases has with
  | true =>
    have hle := prefix_le h
    clear h
    obtain ⟨i0, hi0, _, hsz, _⟩ := info_parts info5
    obtain ⟨A', hcut, hA, hC⟩ := print_drop_of (P := Tryd.prog) (Value.int .u8) 0 35 5 .i64 Tryd.underlying35 hi0 hsz A0 c0 l0 (l1.length : Int) (by omega) (by omega) HC0.out
    have hRA := Kd.C_of_reads (h1 := fun _ => rfl) (hA _ (Kd.reads_of_C HR0.out))
    rw [Int.toNat_natCast] at hcut hC hRA
    obtain ⟨m, hm⟩ : ∃ m : List Int, m = l0.drop l1.length := ⟨_, rfl⟩
    have hmo : cutOf true l0 l1 = m := by rw [hm]; rfl
    rw [← hm] at hcut hC hRA
    rw [hmo]
    have HRA := Aside0.mk hRA
    have HCA := Aside0.mk hC
    clear hA hC hRA hm hmo hi0 hsz hle
    go_enter Tryd.func57, Tryd.ntmps57
    go_wp2_with fail
    refine (bytes_HasPrefix.calls A0 c0 l0 A1 c1 l1 true _ HR0.out HC0.out HR1.out HC1.out HH.out).mono ?_
    rintro e w' ⟨rfl, ⟨nd, rfl⟩⟩
    go_wp2_with fail
    go_ret2
    exact ⟨_, _, rfl, ⟨_, rfl⟩, HRA.out, HCA.out⟩
  | false =>
    clear h
    go_enter Tryd.func57, Tryd.ntmps57
    go_wp2_with fail
    refine (bytes_HasPrefix.calls A0 c0 l0 A1 c1 l1 false _ HR0.out HC0.out HR1.out HC1.out HH.out).mono ?_
    rintro e w' ⟨rfl, ⟨nd, rfl⟩⟩
    go_wp2_with fail
    go_ret2
    exact ⟨_, _, rfl, ⟨_, rfl⟩, HR0.out, HC0.out⟩
end Go.Proofs.YtggpejjfgphihaaDoor.Given
end

section
namespace Go.Proofs.YtggpejjfgphihaaDoor.H
open Go.Proofs.YtggpejjfgphihaaDoor.Given Go.Proofs.YtggpejjfgphihaaDoor.D Go.RowKit Go.Proofs.YtggpejjfgphihaaDoorW.PrintWords Go.Proofs.YtggpejjfgphihaaDoorW.PrintLast Go.Proofs.YtggpejjfgphihaaDoorW.PrintMore
attribute [local go_sem] max2_int min2_int max_two min_two max_three min_three max_four min_four
set_option linter.unusedVariables false
set_option linter.unusedSimpArgs false
def wire_Get.l0 : Nat → Int → List Int → Int → Int → Option (Int)
  | 0, _, _, _, _ => none
  | k + 1, x5, x10, x11, x12 => if x12 < x11 then (if 0 ≤ x12 then (if x12 < (x10.length : Int) then (wire_Get.l0 k (Go.bits .or .u64 (IntKind.u64.wrap (x5 * 256)) (IntKind.u64.wrap (rd x10 x12))) x10 x11 (wrap64 (x12 + 1))) else (none)) else (none)) else (some x5)
def wire_Get.f (k : Nat) (l0 : List Int) (a1 : Int) : Option (Int) := if 0 ≤ a1 then (if a1 ≤ (l0.length : Int) then (wire_Get.l0 k 0 (l0.take (a1 : Int).toNat) ((l0.take (a1 : Int).toNat).length : Int) 0) else (none)) else (none)
theorem wire_Get.mono_l : ∀ k, (∀ y0 y1 y2 y3, LeO (wire_Get.l0 k y0 y1 y2 y3) (wire_Get.l0 (k + 1) y0 y1 y2 y3))
  | 0 => fun _ _ _ _ r h => by simp [wire_Get.l0] at h
  | k + 1 => by
    have ih0 := wire_Get.mono_l k
    · intro y0 y1 y2 y3
      unfold wire_Get.l0
      repeat' first
      | (with_reducible exact ih0 _ _ _ _)
      | (with_reducible exact LeO.refl _)
      | (with_reducible exact LeO.none _)
      | (with_reducible refine LeO.ite ?_ ?_)
      | (with_reducible refine LeO.bind ?_ (fun _ => ?_))
      | exact ih0 _ _ _ _
      | exact LeO.none _
      | refine LeO.ite ?_ ?_
      | refine LeO.bind ?_ (fun _ => ?_)
theorem wire_Get.mono : ∀ a0 a1 k, LeO (wire_Get.f k a0 a1) (wire_Get.f (k + 1) a0 a1) := by
  intro a0 a1 k
  have ih0 := wire_Get.mono_l k
  unfold wire_Get.f
  repeat' first
      | (with_reducible exact ih0 _ _ _ _)
      | (with_reducible exact LeO.refl _)
      | (with_reducible exact LeO.none _)
      | (with_reducible refine LeO.ite ?_ ?_)
      | (with_reducible refine LeO.bind ?_ (fun _ => ?_))
      | exact ih0 _ _ _ _
      | exact LeO.none _
      | refine LeO.ite ?_ ?_
      | refine LeO.bind ?_ (fun _ => ?_)
set_option maxHeartbeats 8000000 in
set_option maxRecDepth 100000 in
theorem wire_Get.calls (k : Nat) (A0 : Option Addr) (c0 : Nat) (l0 : List Int) (a1 : Int) (r : Int) (w : World) (hr0 : Kd.C (Kd.int .u8) w A0 l0.length l0) (hc0 : l0.length ≤ c0) (h : wire_Get.f k l0 a1 = some r) :
    Calls Tryd.prog 78 #[.slice A0 l0.length c0, .int .i64 a1] w fun e w' => e = .returned (.int .u64 r) ∧ Drawn0 w w' := by
  have HR0 := Aside0.mk hr0
  have HC0 := Aside0.mk hc0
  clear hr0 hc0
  have H : (if 0 ≤ a1 then (if a1 ≤ (l0.length : Int) then (wire_Get.l0 k 0 (l0.take (a1 : Int).toNat) ((l0.take (a1 : Int).toNat).length : Int) 0) else (none)) else (none)) = some r := h
  obtain ⟨cm1, hcm1⟩ : ∃ m_ : List Int, m_ = (l0.take (a1 : Int).toNat) := ⟨_, rfl⟩
  (try rw [← hcm1] at H)
  have HCM1 := Aside0.mk hcm1
  clear hcm1
  clear h
  by_cases c3 : 0 ≤ a1
  · rw [if_pos c3] at H
    have c3b0 := eq_true c3
    have c3b1 : decide (0 ≤ a1) = true := decide_eq_true c3
    clear c3
    by_cases c4 : a1 ≤ (l0.length : Int)
    · rw [if_pos c4] at H
      have c4b0 := eq_true c4
      have c4b1 : decide (a1 ≤ (l0.length : Int)) = true := decide_eq_true c4
      clear c4
      have H' := Aside0.mk H
      clear H
      obtain ⟨i05, hi05, _, hsz5, _⟩ := info_parts info5
      obtain ⟨hcut5, hA5, hC5⟩ := print_take_of (P := Tryd.prog) (Value.int .u8) 0 35 5 .i64 Tryd.underlying35 hi05 hsz5 A0 c0 l0 a1 (of_decide_eq_true (by first | (with_reducible assumption) | assumption)) (of_decide_eq_true (by first | (with_reducible assumption) | assumption)) HC0.out
      rw [← HCM1.out] at hcut5 hA5 hC5
      have HCM1L := Aside0.mk (show cm1.length = (a1 : Int).toNat by rw [HCM1.out, List.length_take]; have h_ : (a1 : Int) ≤ (l0.length : Int) := of_decide_eq_true (by first | (with_reducible assumption) | assumption); omega)
      have HR121 := Aside0.mk (Kd.C_of_reads (h1 := fun _ => rfl) (hA5 _ (Kd.reads_of_C HR0.out)))
      have HC121 := Aside0.mk hC5
      clear hA5 hC5 hi05 hsz5
      go_enter Tryd.func78, Tryd.ntmps78
      go_wp2
      go_loopg [5, 12] k (fun kq v5 v12 w' => ∃ (x5_1 : Int) (x12_1 : Int), v5 = .int .u64 x5_1 ∧ v12 = .int .i64 x12_1 ∧ Aside0 (wire_Get.l0 kq x5_1 cm1 (cm1.length : Int) x12_1 = some r) ∧ Aside0 (kq ≤ k) ∧ Drawn0 w w')
      case atStart => exact ⟨(0), (0), (by first | rfl | (simp; done) | (simp [*]; done)), (by first | rfl | (simp; done) | (simp [*]; done)), H', ⟨Nat.le_refl _⟩, by repeat (first | exact Drawn0.refl _ | apply Drawn0.step)⟩
      case round =>
        clear H'
        try clear p2
        try clear c3
        try clear c3b0
        try clear c3b1
        try clear c4
        try clear c4b0
        try clear c4b1
        obtain ⟨x5_1, x12_1, rfl, rfl, HA, HK1, ⟨m1, rfl⟩⟩ := hrel
        cases gk with
        | zero => exact absurd HA.out (by simp [wire_Get.l0])
        | succ k1 =>
          have H := HA.out
          clear HA
          simp only [wire_Get.l0] at H
          by_cases c6 : x12_1 < (cm1.length : Int)
          · rw [if_pos c6] at H
            have c6b0 : decide (x12_1 < (cm1.length : Int)) = true := decide_eq_true c6
            clear c6
            by_cases c7 : 0 ≤ x12_1
            · rw [if_pos c7] at H
              have c7b0 : decide (0 ≤ x12_1) = true := decide_eq_true c7
              clear c7
              by_cases c8 : x12_1 < (cm1.length : Int)
              · rw [if_pos c8] at H
                have c8b0 : decide (x12_1 < (cm1.length : Int)) = true := decide_eq_true c8
                clear c8
                have H' := Aside0.mk H
                clear H
                have p122 : 0 ≤ (x12_1 : Int) := of_decide_eq_true (by first | (with_reducible assumption) | assumption)
                have q122 : x12_1 < (cm1.length : Int) := of_decide_eq_true (by first | (with_reducible assumption) | assumption)
                obtain ⟨ad122, e122, hx122_0⟩ := Kd.at_int HR121.out x12_1 p122 q122
                cases e122
                replace p122 := eq_true p122
                replace q122 := eq_true q122
                go_wp2
                go_roundg k1
                case measure => have := HK1.out; omega
                case rel => exact ⟨(Go.bits .or .u64 (IntKind.u64.wrap (x5_1 * 256)) (IntKind.u64.wrap (rd cm1 x12_1))), (wrap64 (x12_1 + 1)), (by first | rfl | (simp; done) | (simp [*]; done)), (by first | rfl | (simp; done) | (simp [*]; done)), H', ⟨by have := HK1.out; omega⟩, by repeat (first | exact Drawn0.refl _ | apply Drawn0.step)⟩
              · rw [if_neg c8] at H
                exact absurd H (by simp)
            · rw [if_neg c7] at H
              exact absurd H (by simp)
          · rw [if_neg c6] at H
            have c6b0 : decide (x12_1 < (cm1.length : Int)) = false := decide_eq_false c6
            clear c6
            obtain rfl := Option.some.inj H
            go_wp2
            go_ret
            exact ⟨by first | rfl | (simp; done) | (simp [*]; done), by repeat (first | exact Drawn0.refl _ | apply Drawn0.step)⟩
    · rw [if_neg c4] at H
      exact absurd H (by simp)
  · rw [if_neg c3] at H
    exact absurd H (by simp)
end Go.Proofs.YtggpejjfgphihaaDoor.H
end

section
namespace Go.Proofs.YtggpejjfgphihaaDoor.H
open Go.Proofs.YtggpejjfgphihaaDoor.Given Go.Proofs.YtggpejjfgphihaaDoor.D Go.RowKit Go.Proofs.YtggpejjfgphihaaDoorW.PrintWords Go.Proofs.YtggpejjfgphihaaDoorW.PrintLast Go.Proofs.YtggpejjfgphihaaDoorW.PrintMore
attribute [local go_sem] max2_int min2_int max_two min_two max_three min_three max_four min_four
set_option linter.unusedVariables false
set_option linter.unusedSimpArgs false
def proto_Get.f (k : Nat) (l0 : List Int) (a1 : Bool) : Option (Int × Int × Int) := if (l0.length : Int) = 0 then (some (0, 0, 2)) else (if 0 < (l0.length : Int) then (if (Go.bits .and .u8 (rd l0 0) 1) = 0 then (if (l0.length : Int) = 1 then (some (0, 0, 2)) else ((wire_Get.f k l0 2).bind fun t125 => ((proto_Right.f (IntKind.u16.wrap (t125))).bind fun t126 => (if t126 = true then (if 2 = 1 then (if a1 = true then (some (IntKind.u16.wrap (t125), 2, 0)) else (some (0, 0, 7))) else (some (IntKind.u16.wrap (t125), 2, 0))) else (some (0, 0, 7)))))) else ((proto_Right.f (IntKind.u16.wrap (rd l0 0))).bind fun t127 => (if t127 = true then (if 1 = 1 then (if a1 = true then (some (IntKind.u16.wrap (rd l0 0), 1, 0)) else (some (0, 0, 7))) else (some (IntKind.u16.wrap (rd l0 0), 1, 0))) else (some (0, 0, 7))))) else (none))
theorem proto_Get.mono : ∀ a0 a1 k, LeO (proto_Get.f k a0 a1) (proto_Get.f (k + 1) a0 a1) := by
  intro a0 a1 k
  unfold proto_Get.f
  repeat' first
      | (with_reducible exact wire_Get.mono _ _ _)
      | (with_reducible exact LeO.refl _)
      | (with_reducible exact LeO.none _)
      | (with_reducible refine LeO.ite ?_ ?_)
      | (with_reducible refine LeO.bind ?_ (fun _ => ?_))
      | exact wire_Get.mono _ _ _
      | exact LeO.none _
      | refine LeO.ite ?_ ?_
      | refine LeO.bind ?_ (fun _ => ?_)
set_option maxHeartbeats 8000000 in
set_option maxRecDepth 100000 in
theorem proto_Get.calls (k : Nat) (A0 : Option Addr) (c0 : Nat) (l0 : List Int) (a1 : Bool) (r1 : Int) (r2 : Int) (r3 : Int) (w : World) (hr0 : Kd.C (Kd.int .u8) w A0 l0.length l0) (hc0 : l0.length ≤ c0) (h : proto_Get.f k l0 a1 = some (r1, r2, r3)) :
    Calls Tryd.prog 58 #[.slice A0 l0.length c0, .bool a1] w fun e w' => e = .returned (.tuple #[.int .u16 r1, .int .i64 r2, .int .i64 r3]) ∧ Drawn0 w w' := by
  have HR0 := Aside0.mk hr0
  have HC0 := Aside0.mk hc0
  clear hr0 hc0
  have H : (if (l0.length : Int) = 0 then (some (0, 0, 2)) else (if 0 < (l0.length : Int) then (if (Go.bits .and .u8 (rd l0 0) 1) = 0 then (if (l0.length : Int) = 1 then (some (0, 0, 2)) else ((wire_Get.f k l0 2).bind fun t125 => ((proto_Right.f (IntKind.u16.wrap (t125))).bind fun t126 => (if t126 = true then (if 2 = 1 then (if a1 = true then (some (IntKind.u16.wrap (t125), 2, 0)) else (some (0, 0, 7))) else (some (IntKind.u16.wrap (t125), 2, 0))) else (some (0, 0, 7)))))) else ((proto_Right.f (IntKind.u16.wrap (rd l0 0))).bind fun t127 => (if t127 = true then (if 1 = 1 then (if a1 = true then (some (IntKind.u16.wrap (rd l0 0), 1, 0)) else (some (0, 0, 7))) else (some (IntKind.u16.wrap (rd l0 0), 1, 0))) else (some (0, 0, 7))))) else (none))) = some (r1, r2, r3) := h
  clear h
  by_cases c3 : (l0.length : Int) = 0
  · rw [if_pos c3] at H
    have c3b0 : ((l0.length : Int) == 0) = true := beq_iff_eq.mpr c3
    have c3b1 : ((l0.length : Int) != 0) = false := bne_eq_false_iff_eq.mpr c3
    clear c3
    simp only [Option.some.injEq, Prod.mk.injEq] at H
    obtain ⟨rfl, rfl, rfl⟩ := H
    go_enter Tryd.func58, Tryd.ntmps58
    go_wp2
    go_ret3
    exact ⟨by first | rfl | (simp; done) | (simp [*]; done), by repeat (first | exact Drawn0.refl _ | apply Drawn0.step)⟩
  · rw [if_neg c3] at H
    have c3b0 : ((l0.length : Int) == 0) = false := beq_eq_false_iff_ne.mpr c3
    have c3b1 : ((l0.length : Int) != 0) = true := bne_iff_ne.mpr c3
    have c3b2 : ¬ (l0 = []) := fun h_ => c3 (by rw [h_]; rfl)
    by_cases c4 : 0 < (l0.length : Int)
    · rw [if_pos c4] at H
      have c4b0 : decide (0 < (l0.length : Int)) = true := decide_eq_true c4
      have c4b1 : decide (0 < l0.length) = true := decide_eq_true (by omega)
      clear c4
      by_cases c5 : (Go.bits .and .u8 (rd l0 0) 1) = 0
      · rw [if_pos c5] at H
        have c5b0 : ((Go.bits .and .u8 (rd l0 0) 1) == 0) = true := beq_iff_eq.mpr c5
        have c5b1 : ((Go.bits .and .u8 (rd l0 0) 1) != 0) = false := bne_eq_false_iff_eq.mpr c5
        clear c5
        by_cases c6 : (l0.length : Int) = 1
        · rw [if_pos c6] at H
          have c6b0 : ((l0.length : Int) == 1) = true := beq_iff_eq.mpr c6
          have c6b1 : ((l0.length : Int) != 1) = false := bne_eq_false_iff_eq.mpr c6
          clear c6
          simp only [Option.some.injEq, Prod.mk.injEq] at H
          obtain ⟨rfl, rfl, rfl⟩ := H
          have p123 : 0 ≤ (0 : Int) := (by omega)
          have q123 : 0 < (l0.length : Int) := of_decide_eq_true (by first | (with_reducible assumption) | assumption)
          obtain ⟨ad123, e123, hx123_0⟩ := Kd.at_int HR0.out 0 p123 q123
          cases e123
          have qi123 : (0 < l0.length) = True := eq_true (by omega)
          (try rw [show ((0 : Int)).toNat = 0 from rfl] at hx123_0)
          (try rw [Addr.add_zero'] at hx123_0)
          replace p123 := eq_true p123
          replace q123 := eq_true q123
          have p124 : 0 ≤ (0 : Int) := (by omega)
          have q124 : 0 < (l0.length : Int) := of_decide_eq_true (by first | (with_reducible assumption) | assumption)
          obtain ⟨ad124, e124, hx124_0⟩ := Kd.at_int HR0.out 0 p124 q124
          obtain rfl : ad123 = ad124 := (by injection e124)
          have qi124 : (0 < l0.length) = True := eq_true (by omega)
          (try rw [show ((0 : Int)).toNat = 0 from rfl] at hx124_0)
          (try rw [Addr.add_zero'] at hx124_0)
          replace p124 := eq_true p124
          replace q124 := eq_true q124
          go_enter Tryd.func58, Tryd.ntmps58
          go_wp2
          go_ret3
          exact ⟨by first | rfl | (simp; done) | (simp [*]; done), by repeat (first | exact Drawn0.refl _ | apply Drawn0.step)⟩
        · rw [if_neg c6] at H
          have c6b0 : ((l0.length : Int) == 1) = false := beq_eq_false_iff_ne.mpr c6
          have c6b1 : ((l0.length : Int) != 1) = true := bne_iff_ne.mpr c6
          replace H := Option.bind_eq_some_iff.mp H
          obtain ⟨t125, A70, H⟩ := H
          replace H : ((proto_Right.f (IntKind.u16.wrap (t125))).bind fun t126 => (if t126 = true then (if 2 = 1 then (if a1 = true then (some (IntKind.u16.wrap (t125), 2, 0)) else (some (0, 0, 7))) else (some (IntKind.u16.wrap (t125), 2, 0))) else (some (0, 0, 7)))) = some (r1, r2, r3) := H
          have A7 := Aside0.mk A70
          clear A70
          replace H := Option.bind_eq_some_iff.mp H
          obtain ⟨t126, A80, H⟩ := H
          replace H : (if t126 = true then (if 2 = 1 then (if a1 = true then (some (IntKind.u16.wrap (t125), 2, 0)) else (some (0, 0, 7))) else (some (IntKind.u16.wrap (t125), 2, 0))) else (some (0, 0, 7))) = some (r1, r2, r3) := H
          have A8 := Aside0.mk A80
          clear A80
          by_cases c9 : t126 = true
          · subst c9
            have H1 : (if 2 = 1 then (if a1 = true then (some (IntKind.u16.wrap (t125), 2, 0)) else (some (0, 0, 7))) else (some (IntKind.u16.wrap (t125), 2, 0))) = some (r1, r2, r3) := by rw [if_pos rfl] at H; exact H
            clear H
            have H := H1
            clear H1
            by_cases c10 : 2 = 1
            · exact absurd c10 (by decide)
            · rw [if_neg c10] at H
              have c10b0 : (2 == 1) = false := beq_eq_false_iff_ne.mpr c10
              have c10b1 : (2 != 1) = true := bne_iff_ne.mpr c10
              simp only [Option.some.injEq, Prod.mk.injEq] at H
              obtain ⟨rfl, rfl, rfl⟩ := H
              have p123 : 0 ≤ (0 : Int) := (by omega)
              have q123 : 0 < (l0.length : Int) := of_decide_eq_true (by first | (with_reducible assumption) | assumption)
              obtain ⟨ad123, e123, hx123_0⟩ := Kd.at_int HR0.out 0 p123 q123
              cases e123
              have qi123 : (0 < l0.length) = True := eq_true (by omega)
              (try rw [show ((0 : Int)).toNat = 0 from rfl] at hx123_0)
              (try rw [Addr.add_zero'] at hx123_0)
              replace p123 := eq_true p123
              replace q123 := eq_true q123
              have p124 : 0 ≤ (0 : Int) := (by omega)
              have q124 : 0 < (l0.length : Int) := of_decide_eq_true (by first | (with_reducible assumption) | assumption)
              obtain ⟨ad124, e124, hx124_0⟩ := Kd.at_int HR0.out 0 p124 q124
              obtain rfl : ad123 = ad124 := (by injection e124)
              have qi124 : (0 < l0.length) = True := eq_true (by omega)
              (try rw [show ((0 : Int)).toNat = 0 from rfl] at hx124_0)
              (try rw [Addr.add_zero'] at hx124_0)
              replace p124 := eq_true p124
              replace q124 := eq_true q124
              go_enter Tryd.func58, Tryd.ntmps58
              go_wp2_with (first | ((with_reducible refine gate_callee (f := 78) rfl ?_); refine goesL_ (some 25) rfl rfl Tryd.func78 (by kernel_rfl) rfl #[.slice (some ad123) l0.length c0, .int .i64 2] rfl (by (try simp only [List.map_toArray, List.map_cons, List.map_nil]); first | done | rfl | (simp only [List.length_drop, List.length_take]; rfl)) ?_; (with_reducible refine (wire_Get.calls k _ _ l0 2 t125 _ ?side1 ?side2 A7.out).mono ?_); (case side1 => repeat (first | exact HR0.out | (with_reducible refine Kd.C_alloc ?_ _) | (with_reducible refine Kd.C_drewN ?_ _) | (with_reducible refine Kd.C_drew ?_))); (case side2 => exact HC0.out); rintro e w' ⟨rfl, ⟨nd, rfl⟩⟩; refine ⟨_, rfl, ?_⟩) | ((with_reducible refine gate_callee (f := 69) rfl ?_); refine goesL_ (some 28) rfl rfl Tryd.func69 (by kernel_rfl) rfl #[.int .u16 (IntKind.u16.wrap (t125))] rfl (by (try simp only [List.map_toArray, List.map_cons, List.map_nil]); first | done | rfl | (simp only [List.length_drop, List.length_take]; rfl)) ?_; (with_reducible refine (proto_Right.calls (IntKind.u16.wrap (t125)) true _ A8.out).mono ?_); rintro e w' ⟨rfl, ⟨nd, rfl⟩⟩; refine ⟨_, rfl, ?_⟩))
              go_ret3
              exact ⟨by first | rfl | (simp; done) | (simp [*]; done), by repeat (first | exact Drawn0.refl _ | apply Drawn0.step)⟩
          · replace c9 := Bool.eq_false_iff.mpr c9
            subst c9
            have H1 : (some (0, 0, 7)) = some (r1, r2, r3) := by rw [if_neg (show ¬ (false = true) by decide)] at H; exact H
            clear H
            have H := H1
            clear H1
            simp only [Option.some.injEq, Prod.mk.injEq] at H
            obtain ⟨rfl, rfl, rfl⟩ := H
            have p123 : 0 ≤ (0 : Int) := (by omega)
            have q123 : 0 < (l0.length : Int) := of_decide_eq_true (by first | (with_reducible assumption) | assumption)
            obtain ⟨ad123, e123, hx123_0⟩ := Kd.at_int HR0.out 0 p123 q123
            cases e123
            have qi123 : (0 < l0.length) = True := eq_true (by omega)
            (try rw [show ((0 : Int)).toNat = 0 from rfl] at hx123_0)
            (try rw [Addr.add_zero'] at hx123_0)
            replace p123 := eq_true p123
            replace q123 := eq_true q123
            have p124 : 0 ≤ (0 : Int) := (by omega)
            have q124 : 0 < (l0.length : Int) := of_decide_eq_true (by first | (with_reducible assumption) | assumption)
            obtain ⟨ad124, e124, hx124_0⟩ := Kd.at_int HR0.out 0 p124 q124
            obtain rfl : ad123 = ad124 := (by injection e124)
            have qi124 : (0 < l0.length) = True := eq_true (by omega)
            (try rw [show ((0 : Int)).toNat = 0 from rfl] at hx124_0)
            (try rw [Addr.add_zero'] at hx124_0)
            replace p124 := eq_true p124
            replace q124 := eq_true q124
            go_enter Tryd.func58, Tryd.ntmps58
            go_wp2_with (first | ((with_reducible refine gate_callee (f := 78) rfl ?_); refine goesL_ (some 25) rfl rfl Tryd.func78 (by kernel_rfl) rfl #[.slice (some ad123) l0.length c0, .int .i64 2] rfl (by (try simp only [List.map_toArray, List.map_cons, List.map_nil]); first | done | rfl | (simp only [List.length_drop, List.length_take]; rfl)) ?_; (with_reducible refine (wire_Get.calls k _ _ l0 2 t125 _ ?side1 ?side2 A7.out).mono ?_); (case side1 => repeat (first | exact HR0.out | (with_reducible refine Kd.C_alloc ?_ _) | (with_reducible refine Kd.C_drewN ?_ _) | (with_reducible refine Kd.C_drew ?_))); (case side2 => exact HC0.out); rintro e w' ⟨rfl, ⟨nd, rfl⟩⟩; refine ⟨_, rfl, ?_⟩) | ((with_reducible refine gate_callee (f := 69) rfl ?_); refine goesL_ (some 28) rfl rfl Tryd.func69 (by kernel_rfl) rfl #[.int .u16 (IntKind.u16.wrap (t125))] rfl (by (try simp only [List.map_toArray, List.map_cons, List.map_nil]); first | done | rfl | (simp only [List.length_drop, List.length_take]; rfl)) ?_; (with_reducible refine (proto_Right.calls (IntKind.u16.wrap (t125)) false _ A8.out).mono ?_); rintro e w' ⟨rfl, ⟨nd, rfl⟩⟩; refine ⟨_, rfl, ?_⟩))
            go_ret3
            exact ⟨by first | rfl | (simp; done) | (simp [*]; done), by repeat (first | exact Drawn0.refl _ | apply Drawn0.step)⟩
      · rw [if_neg c5] at H
        have c5b0 : ((Go.bits .and .u8 (rd l0 0) 1) == 0) = false := beq_eq_false_iff_ne.mpr c5
        have c5b1 : ((Go.bits .and .u8 (rd l0 0) 1) != 0) = true := bne_iff_ne.mpr c5
        replace H := Option.bind_eq_some_iff.mp H
        obtain ⟨t127, A120, H⟩ := H
        replace H : (if t127 = true then (if 1 = 1 then (if a1 = true then (some (IntKind.u16.wrap (rd l0 0), 1, 0)) else (some (0, 0, 7))) else (some (IntKind.u16.wrap (rd l0 0), 1, 0))) else (some (0, 0, 7))) = some (r1, r2, r3) := H
        have A12 := Aside0.mk A120
        clear A120
        by_cases c13 : t127 = true
        · subst c13
          have H1 : (if 1 = 1 then (if a1 = true then (some (IntKind.u16.wrap (rd l0 0), 1, 0)) else (some (0, 0, 7))) else (some (IntKind.u16.wrap (rd l0 0), 1, 0))) = some (r1, r2, r3) := by rw [if_pos rfl] at H; exact H
          clear H
          have H := H1
          clear H1
          by_cases c14 : 1 = 1
          · rw [if_pos c14] at H
            have c14b0 : (1 == 1) = true := beq_iff_eq.mpr c14
            have c14b1 : (1 != 1) = false := bne_eq_false_iff_eq.mpr c14
            clear c14
            by_cases c15 : a1 = true
            · subst c15
              have H1 : (some (IntKind.u16.wrap (rd l0 0), 1, 0)) = some (r1, r2, r3) := by rw [if_pos rfl] at H; exact H
              clear H
              have H := H1
              clear H1
              simp only [Option.some.injEq, Prod.mk.injEq] at H
              obtain ⟨rfl, rfl, rfl⟩ := H
              have p123 : 0 ≤ (0 : Int) := (by omega)
              have q123 : 0 < (l0.length : Int) := of_decide_eq_true (by first | (with_reducible assumption) | assumption)
              obtain ⟨ad123, e123, hx123_0⟩ := Kd.at_int HR0.out 0 p123 q123
              cases e123
              have qi123 : (0 < l0.length) = True := eq_true (by omega)
              (try rw [show ((0 : Int)).toNat = 0 from rfl] at hx123_0)
              (try rw [Addr.add_zero'] at hx123_0)
              replace p123 := eq_true p123
              replace q123 := eq_true q123
              have p124 : 0 ≤ (0 : Int) := (by omega)
              have q124 : 0 < (l0.length : Int) := of_decide_eq_true (by first | (with_reducible assumption) | assumption)
              obtain ⟨ad124, e124, hx124_0⟩ := Kd.at_int HR0.out 0 p124 q124
              obtain rfl : ad123 = ad124 := (by injection e124)
              have qi124 : (0 < l0.length) = True := eq_true (by omega)
              (try rw [show ((0 : Int)).toNat = 0 from rfl] at hx124_0)
              (try rw [Addr.add_zero'] at hx124_0)
              replace p124 := eq_true p124
              replace q124 := eq_true q124
              go_enter Tryd.func58, Tryd.ntmps58
              go_wp2_with (first | ((with_reducible refine gate_callee (f := 69) rfl ?_); refine goesL_ (some 28) rfl rfl Tryd.func69 (by kernel_rfl) rfl #[.int .u16 (IntKind.u16.wrap (rd l0 0))] rfl (by (try simp only [List.map_toArray, List.map_cons, List.map_nil]); first | done | rfl | (simp only [List.length_drop, List.length_take]; rfl)) ?_; (with_reducible refine (proto_Right.calls (IntKind.u16.wrap (rd l0 0)) true _ A12.out).mono ?_); rintro e w' ⟨rfl, ⟨nd, rfl⟩⟩; refine ⟨_, rfl, ?_⟩))
              go_ret3
              exact ⟨by first | rfl | (simp; done) | (simp [*]; done), by repeat (first | exact Drawn0.refl _ | apply Drawn0.step)⟩
            · replace c15 := Bool.eq_false_iff.mpr c15
              subst c15
              have H1 : (some (0, 0, 7)) = some (r1, r2, r3) := by rw [if_neg (show ¬ (false = true) by decide)] at H; exact H
              clear H
              have H := H1
              clear H1
              simp only [Option.some.injEq, Prod.mk.injEq] at H
              obtain ⟨rfl, rfl, rfl⟩ := H
              have p123 : 0 ≤ (0 : Int) := (by omega)
              have q123 : 0 < (l0.length : Int) := of_decide_eq_true (by first | (with_reducible assumption) | assumption)
              obtain ⟨ad123, e123, hx123_0⟩ := Kd.at_int HR0.out 0 p123 q123
              cases e123
              have qi123 : (0 < l0.length) = True := eq_true (by omega)
              (try rw [show ((0 : Int)).toNat = 0 from rfl] at hx123_0)
              (try rw [Addr.add_zero'] at hx123_0)
              replace p123 := eq_true p123
              replace q123 := eq_true q123
              have p124 : 0 ≤ (0 : Int) := (by omega)
              have q124 : 0 < (l0.length : Int) := of_decide_eq_true (by first | (with_reducible assumption) | assumption)
              obtain ⟨ad124, e124, hx124_0⟩ := Kd.at_int HR0.out 0 p124 q124
              obtain rfl : ad123 = ad124 := (by injection e124)
              have qi124 : (0 < l0.length) = True := eq_true (by omega)
              (try rw [show ((0 : Int)).toNat = 0 from rfl] at hx124_0)
              (try rw [Addr.add_zero'] at hx124_0)
              replace p124 := eq_true p124
              replace q124 := eq_true q124
              go_enter Tryd.func58, Tryd.ntmps58
              go_wp2_with (first | ((with_reducible refine gate_callee (f := 69) rfl ?_); refine goesL_ (some 28) rfl rfl Tryd.func69 (by kernel_rfl) rfl #[.int .u16 (IntKind.u16.wrap (rd l0 0))] rfl (by (try simp only [List.map_toArray, List.map_cons, List.map_nil]); first | done | rfl | (simp only [List.length_drop, List.length_take]; rfl)) ?_; (with_reducible refine (proto_Right.calls (IntKind.u16.wrap (rd l0 0)) true _ A12.out).mono ?_); rintro e w' ⟨rfl, ⟨nd, rfl⟩⟩; refine ⟨_, rfl, ?_⟩))
              go_ret3
              exact ⟨by first | rfl | (simp; done) | (simp [*]; done), by repeat (first | exact Drawn0.refl _ | apply Drawn0.step)⟩
          · exact absurd rfl c14
        · replace c13 := Bool.eq_false_iff.mpr c13
          subst c13
          have H1 : (some (0, 0, 7)) = some (r1, r2, r3) := by rw [if_neg (show ¬ (false = true) by decide)] at H; exact H
          clear H
          have H := H1
          clear H1
          simp only [Option.some.injEq, Prod.mk.injEq] at H
          obtain ⟨rfl, rfl, rfl⟩ := H
          have p123 : 0 ≤ (0 : Int) := (by omega)
          have q123 : 0 < (l0.length : Int) := of_decide_eq_true (by first | (with_reducible assumption) | assumption)
          obtain ⟨ad123, e123, hx123_0⟩ := Kd.at_int HR0.out 0 p123 q123
          cases e123
          have qi123 : (0 < l0.length) = True := eq_true (by omega)
          (try rw [show ((0 : Int)).toNat = 0 from rfl] at hx123_0)
          (try rw [Addr.add_zero'] at hx123_0)
          replace p123 := eq_true p123
          replace q123 := eq_true q123
          have p124 : 0 ≤ (0 : Int) := (by omega)
          have q124 : 0 < (l0.length : Int) := of_decide_eq_true (by first | (with_reducible assumption) | assumption)
          obtain ⟨ad124, e124, hx124_0⟩ := Kd.at_int HR0.out 0 p124 q124
          obtain rfl : ad123 = ad124 := (by injection e124)
          have qi124 : (0 < l0.length) = True := eq_true (by omega)
          (try rw [show ((0 : Int)).toNat = 0 from rfl] at hx124_0)
          (try rw [Addr.add_zero'] at hx124_0)
          replace p124 := eq_true p124
          replace q124 := eq_true q124
          go_enter Tryd.func58, Tryd.ntmps58
          go_wp2_with (first | ((with_reducible refine gate_callee (f := 69) rfl ?_); refine goesL_ (some 28) rfl rfl Tryd.func69 (by kernel_rfl) rfl #[.int .u16 (IntKind.u16.wrap (rd l0 0))] rfl (by (try simp only [List.map_toArray, List.map_cons, List.map_nil]); first | done | rfl | (simp only [List.length_drop, List.length_take]; rfl)) ?_; (with_reducible refine (proto_Right.calls (IntKind.u16.wrap (rd l0 0)) false _ A12.out).mono ?_); rintro e w' ⟨rfl, ⟨nd, rfl⟩⟩; refine ⟨_, rfl, ?_⟩))
          go_ret3
          exact ⟨by first | rfl | (simp; done) | (simp [*]; done), by repeat (first | exact Drawn0.refl _ | apply Drawn0.step)⟩
    · rw [if_neg c4] at H
      exact absurd H (by simp)
end Go.Proofs.YtggpejjfgphihaaDoor.H
end

section
namespace Go.Proofs.YtggpejjfgphihaaDoor.Given
open Go.RowKit Go.Proofs.YtggpejjfgphihaaDoorW.PrintWords Go.Proofs.YtggpejjfgphihaaDoorW.PrintLast Go.Proofs.YtggpejjfgphihaaDoorW.PrintMore
open Go.Proofs.YtggpejjfgphihaaDoor.H
set_option linter.unusedVariables false
set_option linter.unusedSimpArgs false
def head_Get.f (k : Nat) (a0_0 a0_1 a0_2 a0_3 : Bool) (a0_4 a0_5 a0_6 : Int) (l1 : List Int) : Option (Int × Int × Int) :=
  (bytes_HasPrefix.f l1 [255, 3]).bind fun has => if has = false ∧ a0_2 = false then some (0, 0, 7) else
    (proto_Get.f k (cutOf has l1 [255, 3]) a0_3).bind fun t => if t.2.2 = 0 then some (t.1, wrap64 (wrap64 ((l1.length : Int) - ((cutOf has l1 [255, 3]).length : Int)) + t.2.1), 0) else some (0, 0, 7)
theorem full_reads (w : World) : Kd.C (Kd.int .u8) (w.alloc (.cells #[.int .u8 255, .int .u8 3] 82)) (some ⟨w.heap.size, 0, none⟩) ([255, 3] : List Int).length [255, 3] :=
  Kd.C_of_reads (d := (0 : Int)) (h1 := fun _ => rfl) ⟨rfl, by decide, fun _ => ⟨_, rfl, fun j hj => by
      rw [add_plain, cell_of_row _ _ j _ 82 (0, 0) (heap_alloc_new w _)]
      match j, hj with
      | 0, _ => rfl
      | 1, _ => rfl
      | j + 2, hj => exact absurd hj (by simp)⟩⟩
theorem hi82 : (Tryd.prog.info? 82).map (·.size) = some 2 := by kernel_rfl
theorem full_len : Tryd.prog.arrayLen 82 = 2 := by kernel_rfl
theorem full_elem : Tryd.prog.elem 82 = 5 := by kernel_rfl
theorem full_cut (a : Addr) (W : World) : (Instr.sliceAt 82 (.pointer (some a)) none none none).run Tryd.prog W = .ok (.slice (some a) 2 2) W := by
  obtain ⟨i0, hi0, _, hsz, _⟩ := info_parts info5
  have hu : Tryd.prog.underlying 82 = some (.array (Tryd.prog.arrayLen 82) (Tryd.prog.elem 82)) := by kernel_rfl
  rw [run_sliceAt_array_all W 82 a hu, full_elem, full_len]
  simp [sizeOf, typeInfo, hi0, hsz, slicedAt, sliced, Result.andThen, Addr.add]
set_option maxHeartbeats 4000000 in
set_option maxRecDepth 100000 in
theorem head_Get.calls (k : Nat) (a0_0 a0_1 a0_2 a0_3 : Bool) (a0_4 a0_5 a0_6 : Int) (A1 : Option Addr) (c1 : Nat) (l1 : List Int) (r1 r2 r3 : Int) (w : World) (hr1 : Kd.C (Kd.int .u8) w A1 l1.length l1) (hc1 : l1.length ≤ c1) (hgH : GH w)
    (h : head_Get.f k a0_0 a0_1 a0_2 a0_3 a0_4 a0_5 a0_6 l1 = some (r1, r2, r3)) :
    Calls Tryd.prog 29 #[.agg #[.bool a0_0, .bool a0_1, .bool a0_2, .bool a0_3, .int .u32 a0_4, .int .u32 a0_5, .int .i64 a0_6], .slice A1 l1.length c1] w fun e w' => e = .returned (.tuple #[.int .u16 r1, .int .i64 r2, .int .i64 r3]) ∧ Below w.heap.size w w' := by
  obtain ⟨g0, g1⟩ := hgH
  have lt0 : 0 < w.heap.size := World.block_lt_of_cell? w _ g0
  have HR := Aside0.mk hr1
  have HC := Aside0.mk hc1
  have H := Aside0.mk h
  clear hr1 hc1 h
  go_enter Tryd.func29, Tryd.ntmps29
  go_upto_region 1 with (fail)
  obtain ⟨w1, hw1⟩ : ∃ W, W = w.alloc (.cells #[.bool a0_0, .bool a0_1, .bool a0_2, .bool a0_3, .int .u32 a0_4, .int .u32 a0_5, .int .i64 a0_6] 26) := ⟨_, rfl⟩
  have hb1 : Below w.heap.size w w1 := by rw [hw1]; exact below_alloc (Below.refl _ _) _
  have hs1 : w1.heap.size = w.heap.size + 1 := by rw [hw1]; simp
  have q0 : w1.cell? ⟨0, 0, none⟩ = some (.int .u8 255) := pw_cell_below hb1 g0
  have q1 : w1.cell? ⟨0, 1, none⟩ = some (.int .u8 3) := pw_cell_below hb1 g1
  have ca2 : w1.cell? ⟨w.heap.size, 2, none⟩ = some (.bool a0_2) := by rw [hw1]; exact cell_of_row _ _ 2 _ 26 (0, 0) (heap_alloc_new w _)
  have ca3 : w1.cell? ⟨w.heap.size, 3, none⟩ = some (.bool a0_3) := by rw [hw1]; exact cell_of_row _ _ 3 _ 26 (0, 0) (heap_alloc_new w _)
  rw [← hw1]
  have HR1 := Aside0.mk (Kd.C_below HR.out hb1)
  have HB1 := Aside0.mk hb1
  clear HR hb1 hw1 g0 g1 lt0
  have hg := heap_alloc_new w1 (.cells #[.int .u8 0, .int .u8 0] 82)
  have hrow := made_row w1 #[.int .u8 0, .int .u8 0] #[.int .u8 255, .int .u8 3] 82
  have hsz := hi82
  go_upto_region 2 with (first
        | (with_reducible refine wpList_store_row rfl 82 (.tmp 7) (.tmp 13) rfl w1.heap.size #[.int .u8 255, .int .u8 3] rfl rfl 82 #[.int .u8 0, .int .u8 0] hg hsz rfl (by decide) ?_; rw [hrow]))
  clear hg hrow hsz q0 q1
  obtain ⟨w2, hw2⟩ : ∃ W, W = w1.alloc (.cells #[.int .u8 255, .int .u8 3] 82) := ⟨_, rfl⟩
  have hf : Kd.C (Kd.int .u8) w2 (some ⟨w.heap.size + 1, 0, none⟩) ([255, 3] : List Int).length [255, 3] := by rw [hw2, ← hs1]; exact full_reads w1
  have hb2 : Below w1.heap.size w1 w2 := by rw [hw2]; exact below_alloc (Below.refl _ _) _
  have d2 : w2.cell? ⟨w.heap.size, 2, none⟩ = some (.bool a0_2) := pw_cell_below hb2 ca2
  have d3 : w2.cell? ⟨w.heap.size, 3, none⟩ = some (.bool a0_3) := pw_cell_below hb2 ca3
  rw [← hw2]
  have HF := Aside0.mk hf
  have HR2 := Aside0.mk (Kd.C_below HR1.out hb2)
  have HB2 := Aside0.mk (below_then HB1.out HB1.out.size hb2)
  clear HR1 HB1 hb2 hw2 hf ca2 ca3
  have hcut := fun W => full_cut ⟨w.heap.size + 1, 0, none⟩ W
  unfold head_Get.f at H
  obtain ⟨has, hh, H0⟩ := Option.bind_eq_some_iff.1 H.out
  have HH := Aside0.mk hh
  have H1 := Aside0.mk H0
  clear H hh H0
  go_wp2_with fail
  refine (cutPrefix_calls A1 c1 l1 _ 2 [255, 3] has _ HR2.out HC.out HF.out (by decide) HH.out).mono ?_
  rintro e w3 ⟨A', c', rfl, ⟨nd, rfl⟩, hrm, hcm⟩
  obtain ⟨m, hm⟩ : ∃ m, m = cutOf has l1 [255, 3] := ⟨_, rfl⟩
  rw [← hm] at hrm hcm H1 ⊢
  have HRM := Aside0.mk hrm
  have HCM := Aside0.mk hcm
  clear hrm hcm hm
  cases has with
  | false =>
    cases a0_2 with
    | false =>
      have H2 := H1.out
      rw [if_pos ⟨rfl, rfl⟩] at H2
      obtain ⟨rfl, rfl, rfl⟩ : 0 = r1 ∧ 0 = r2 ∧ 7 = r3 := by simpa using H2
      clear H2
      go_wp2_with fail
      go_ret3
      exact ⟨rfl, pw_below_drewN HB2.out _⟩
    | true =>
      have H2 := H1.out
      rw [if_neg (fun h => by cases h.2)] at H2
      obtain ⟨⟨t1, t2, t3⟩, hp, H3⟩ := Option.bind_eq_some_iff.1 H2
      have HP := Aside0.mk hp
      clear H2 hp H1
      by_cases hz : t3 = 0
      · subst hz
        rw [if_pos rfl] at H3
        obtain ⟨rfl, rfl, rfl⟩ : t1 = r1 ∧ wrap64 (wrap64 ((l1.length : Int) - (m.length : Int)) + t2) = r2 ∧ 0 = r3 := by simpa using H3
        clear H3
        go_wp2_with fail
        refine (proto_Get.calls k _ _ m a0_3 t1 t2 0 _ (Kd.C_drewN HRM.out _) HCM.out HP.out).mono ?_
        rintro e w4 ⟨rfl, ⟨nd2, rfl⟩⟩
        go_wp2_with fail
        go_ret3
        exact ⟨by rfl, pw_below_drewN HB2.out _⟩
      · rw [if_neg hz] at H3
        obtain ⟨rfl, rfl, rfl⟩ : 0 = r1 ∧ 0 = r2 ∧ 7 = r3 := by simpa using H3
        clear H3
        have hz0 : (t3 == 0) = false := beq_eq_false_iff_ne.2 hz
        have hz1 : (t3 != 0) = true := bne_iff_ne.2 hz
        go_wp2_with fail
        refine (proto_Get.calls k _ _ m a0_3 t1 t2 t3 _ (Kd.C_drewN HRM.out _) HCM.out HP.out).mono ?_
        rintro e w4 ⟨rfl, ⟨nd2, rfl⟩⟩
        go_wp2_with fail
        go_ret3
        exact ⟨rfl, pw_below_drewN HB2.out _⟩
  | true =>
      have H2 := H1.out
      rw [if_neg (fun h => by cases h.1)] at H2
      obtain ⟨⟨t1, t2, t3⟩, hp, H3⟩ := Option.bind_eq_some_iff.1 H2
      have HP := Aside0.mk hp
      clear H2 hp H1
      by_cases hz : t3 = 0
      · subst hz
        rw [if_pos rfl] at H3
        obtain ⟨rfl, rfl, rfl⟩ : t1 = r1 ∧ wrap64 (wrap64 ((l1.length : Int) - (m.length : Int)) + t2) = r2 ∧ 0 = r3 := by simpa using H3
        clear H3
        go_wp2_with fail
        refine (proto_Get.calls k _ _ m a0_3 t1 t2 0 _ (Kd.C_drewN HRM.out _) HCM.out HP.out).mono ?_
        rintro e w4 ⟨rfl, ⟨nd2, rfl⟩⟩
        go_wp2_with fail
        go_ret3
        exact ⟨by rfl, pw_below_drewN HB2.out _⟩
      · rw [if_neg hz] at H3
        obtain ⟨rfl, rfl, rfl⟩ : 0 = r1 ∧ 0 = r2 ∧ 7 = r3 := by simpa using H3
        clear H3
        have hz0 : (t3 == 0) = false := beq_eq_false_iff_ne.2 hz
        have hz1 : (t3 != 0) = true := bne_iff_ne.2 hz
        go_wp2_with fail
        refine (proto_Get.calls k _ _ m a0_3 t1 t2 t3 _ (Kd.C_drewN HRM.out _) HCM.out HP.out).mono ?_
        rintro e w4 ⟨rfl, ⟨nd2, rfl⟩⟩
        go_wp2_with fail
        go_ret3
        exact ⟨rfl, pw_below_drewN HB2.out _⟩
end Go.Proofs.YtggpejjfgphihaaDoor.Given
end

section
namespace Go.Proofs.YtggpejjfgphihaaDoor.Given
open Go.RowKit Go.Proofs.YtggpejjfgphihaaDoorW.PrintWords Go.Proofs.YtggpejjfgphihaaDoorW.PrintLast Go.Proofs.YtggpejjfgphihaaDoorW.PrintMore
open Go.Proofs.YtggpejjfgphihaaDoor.H
set_option linter.unusedVariables false
set_option linter.unusedSimpArgs false
def head_Put.f (k : Nat) (a0_0 a0_1 a0_2 a0_3 : Bool) (a0_4 a0_5 a0_6 : Int) (a1 : Int) : Option (List Int) :=
  (proto_Put.f k a1 (a0_3 && !(a1 == 49185))).bind fun t => if (a0_2 && !(a1 == 49185)) = true then some t else if 0 < t.length ∧ t.length < 1000 then some ([255, 3] ++ t) else none
theorem head_Get.mono : ∀ a0_0 a0_1 a0_2 a0_3 a0_4 a0_5 a0_6 a1 k, LeO (head_Get.f k a0_0 a0_1 a0_2 a0_3 a0_4 a0_5 a0_6 a1) (head_Get.f (k + 1) a0_0 a0_1 a0_2 a0_3 a0_4 a0_5 a0_6 a1) := by
  intro a0_0 a0_1 a0_2 a0_3 a0_4 a0_5 a0_6 a1 k
  unfold head_Get.f
  refine LeO.bind (LeO.refl _) (fun has => ?_)
  split
  · exact LeO.refl _
  · exact LeO.bind (proto_Get.mono _ _ _) (fun _ => LeO.refl _)
theorem full_cut2 (a : Addr) (W : World) : (Instr.sliceAt 82 (.pointer (some a)) none (some (.int .i64 2)) (some (.int .i64 2))).run Tryd.prog W = .ok (.slice (some a) 2 2) W := by
  obtain ⟨i0, hi0, _, hsz, _⟩ := info_parts info5
  have hu : Tryd.prog.underlying 82 = some (.array (Tryd.prog.arrayLen 82) (Tryd.prog.elem 82)) := by kernel_rfl
  rw [run_sliceAt_array_hm W 82 a hu .i64 .i64 2 2 (by decide) (by decide) (by rw [full_len]; decide), full_elem]
  simp [sizeOf, typeInfo, hi0, hsz, slicedAt, sliced, Result.andThen, Addr.add]
theorem full_at (w : World) : ∀ j u, [Value.int .u8 255, Value.int .u8 3][j]? = some u → (w.alloc (.cells #[.int .u8 255, .int .u8 3] 82)).cell? ((⟨w.heap.size, 0, none⟩ : Addr).add j) = some u := by
  intro j u h
  rw [add_plain, cell_of_row _ _ j _ 82 (0, 0) (heap_alloc_new w _)]
  match j, h with
  | 0, h => exact h
  | 1, h => exact h
  | j + 2, h => exact absurd h (by simp)
theorem news_at {w : World} {A : Option Addr} {t : List Int} (h : Kd.C (Kd.int .u8) w A t.length t) (hp : 0 < t.length) : ∃ ad, A = some ad ∧ ∀ j u, (encs (Value.int .u8) t)[j]? = some u → w.cell? (ad.add j) = some u := by
  obtain ⟨_, _, hc⟩ := Kd.reads_of_C (d := (0 : Int)) h
  obtain ⟨ad, ha, hj⟩ := hc hp
  refine ⟨ad, ha, fun j u hu => ?_⟩
  have hlt : j < t.length := by
    have := (List.getElem?_eq_some_iff.1 hu).1
    simpa [encs] using this
  rw [hj j hlt]
  rw [← hu]
  simp [encs, List.getD_eq_getElem?_getD, hlt]
set_option maxHeartbeats 8000000 in
set_option maxRecDepth 100000 in
theorem head_Put.calls (k : Nat) (a0_0 a0_1 a0_2 a0_3 : Bool) (a0_4 a0_5 a0_6 : Int) (a1 : Int) (r : List Int) (w : World) (hgH : GH w)
    (h : head_Put.f k a0_0 a0_1 a0_2 a0_3 a0_4 a0_5 a0_6 a1 = some r) :
    Calls Tryd.prog 32 #[.agg #[.bool a0_0, .bool a0_1, .bool a0_2, .bool a0_3, .int .u32 a0_4, .int .u32 a0_5, .int .i64 a0_6], .int .u16 a1] w fun e w' => ∃ v0_ : Value, e = .returned (v0_) ∧ Kd.Q (Kd.int .u8) 5 w' w.heap.size (fun _ => True) v0_ r ∧ Below w.heap.size w w' := by
  have HG := Aside0.mk hgH
  clear hgH
  obtain ⟨L, hL⟩ : ∃ L : Bool, L = (a1 == 49185) := ⟨_, rfl⟩
  obtain ⟨sh, hsh⟩ : ∃ sh : Bool, sh = (a0_3 && !L) := ⟨_, rfl⟩
  obtain ⟨bare, hbare⟩ : ∃ bare : Bool, bare = (a0_2 && !L) := ⟨_, rfl⟩
  unfold head_Put.f at h
  rw [← hL, ← hsh, ← hbare] at h
  obtain ⟨t, hp, h0⟩ := Option.bind_eq_some_iff.1 h
  have HP := Aside0.mk hp
  have H := Aside0.mk h0
  clear h hp h0
  go_enter Tryd.func32, Tryd.ntmps32
  go_upto_region 1 with (fail)
  obtain ⟨w1, hw1⟩ : ∃ W, W = w.alloc (.cells #[.bool a0_0, .bool a0_1, .bool a0_2, .bool a0_3, .int .u32 a0_4, .int .u32 a0_5, .int .i64 a0_6] 26) := ⟨_, rfl⟩
  have hb1 : Below w.heap.size w w1 := by rw [hw1]; exact below_alloc (Below.refl _ _) _
  have hs1 : w1.heap.size = w.heap.size + 1 := by rw [hw1]; simp
  have ca2 : w1.cell? ⟨w.heap.size, 2, none⟩ = some (.bool a0_2) := by rw [hw1]; exact cell_of_row _ _ 2 _ 26 (0, 0) (heap_alloc_new w _)
  have ca3 : w1.cell? ⟨w.heap.size, 3, none⟩ = some (.bool a0_3) := by rw [hw1]; exact cell_of_row _ _ 3 _ 26 (0, 0) (heap_alloc_new w _)
  rw [← hw1]
  have HB1 := Aside0.mk hb1
  have HS1 := Aside0.mk hs1
  clear hb1 hw1 hs1
  have hL' : (a1 == 49185) = L := hL.symm
  clear hL
  cases L <;> cases a0_3 <;> cases a0_2
  all_goals
    simp only [Bool.not_true, Bool.not_false, Bool.and_true, Bool.and_false, Bool.true_and, Bool.false_and] at hsh hbare
    subst hsh hbare
  all_goals
    go_wp2_with fail
    refine (proto_Put.calls k a1 _ t _ HP.out).mono ?_
    rintro e w3 ⟨v, rfl, hq, hb3⟩
    have d2 := pw_cell_below hb3 ca2
    have HQ := Aside0.mk hq
    have HB3 := Aside0.mk (below_then HB1.out HB1.out.size hb3)
    have HS3 := Aside0.mk hb3.size
    clear hq hb3
    have H2 := H.out
    simp only [Bool.false_eq_true, if_true, if_false] at H2
  all_goals first
    | (obtain rfl := Option.some.inj H2
       go_wp2_with fail
       go_ret
       exact ⟨_, rfl, Kd.Q_lower HQ.out (by have := HS1.out; omega), HB3.out⟩)
    | skip
  all_goals
    split at H2
    case isFalse => cases H2
    rename_i hlen
    obtain rfl := Option.some.inj H2
    obtain ⟨hl0, hl1⟩ := hlen
    obtain ⟨g, o, cap, rfl, hg1, hg2, _⟩ := Kd.Q_form HQ.out hl0
    obtain ⟨hn1, hn2, hn3⟩ := Kd.Q_reads' HQ.out
    have HN3 := Aside0.mk hn3
    have HL0 := Aside0.mk hl0
    have HL1 := Aside0.mk hl1
    obtain ⟨q0, q1⟩ := GH_below HG.out HB3.out
    have hg := heap_alloc_new w3 (.cells #[.int .u8 0, .int .u8 0] 82)
    have hrow := made_row w3 #[.int .u8 0, .int .u8 0] #[.int .u8 255, .int .u8 3] 82
    have hsz := hi82
    clear hl0 hl1 hn1 hn2 hn3 hg1 hg2 H2
    go_upto_region 6 with (first
          | (with_reducible refine wpList_store_row rfl 82 (.tmp 7) (.tmp 25) rfl w3.heap.size #[.int .u8 255, .int .u8 3] rfl rfl 82 #[.int .u8 0, .int .u8 0] hg hsz rfl (by decide) ?_; rw [hrow]))
    clear hg hrow hsz q0 q1
    have hcut := fun W => full_cut2 ⟨w3.heap.size, 0, none⟩ W
    have HF := Aside0.mk (full_at w3)
    obtain ⟨ad, had, hnews⟩ := news_at (Kd.C_below HN3.out (below_alloc (Below.refl _ _) (.cells #[.int .u8 255, .int .u8 3] 82))) HL0.out
    obtain rfl := Option.some.inj had
    have HB4 := Aside0.mk (below_alloc HB3.out (.cells #[.int .u8 255, .int .u8 3] 82))
    have HNW := Aside0.mk hnews
    have HS4 := Aside0.mk (show w.heap.size ≤ (w3.alloc (.cells #[.int .u8 255, .int .u8 3] 82)).heap.size from HB4.out.size)
    generalize w3.alloc (.cells #[.int .u8 255, .int .u8 3] 82) = w4 at HF HNW HB4 HS4 ⊢
    clear hnews had
    obtain ⟨i0, hi0, hz0, hsz0, hby0⟩ := info_parts info5
    go_wp2_with (first
          | ((with_reducible refine gate_builtin (b := .append) (xs := #[.tmp 26, .tmp 27]) rfl ?_)
             (try (refine gate_guard (by rfl) ?_; dsimp only))
             at_builtin
             refine wpList_append_grows _ rfl (.tmp 26) (.tmp 27) 35 rfl 5 i0 (.int .u8 0) 1 1 Tryd.underlying35 hi0 hz0 hsz0 hby0 rfl (by decide) (some ⟨w3.heap.size, 0, none⟩) 2 2 [.int .u8 255, .int .u8 3] rfl (fun h => by cases h) rfl (fun b hb => by cases hb; exact HF.out) ⟨g, o, none⟩ t.length cap (encs (Value.int .u8) t) rfl (by rw [encs_length, Nat.mul_one]) HNW.out (fun u hu => by obtain ⟨x, _, rfl⟩ := List.mem_map.1 hu; rfl) (by have := HL0.out; omega) (by have := HL1.out; simp only [maxLen]; omega) (by have := HL1.out; omega) ?_
             intro v' w5 hown hgr
             have HO := Aside0.mk hown
             have HGR := Aside0.mk hgr
             clear hown hgr))
    go_ret
    refine ⟨_, rfl, Kd.Q_lower (Kd.Q_of_R (Kd.R_of_own (enc := Value.int .u8) (xs := [255, 3] ++ t) (by have h_ := HO.out; rw [show ([255, 3] ++ t : List Int).length = 2 + t.length by rw [List.length_append]; rfl]; exact h_) (fun _ _ => trivial))) HS4.out, HB4.out.grown HGR.out HS4.out (fun k hk => by cases hk)⟩
end Go.Proofs.YtggpejjfgphihaaDoor.Given
end

section
namespace Go.Proofs.YtggpejjfgphihaaDoor.H
open Go.Proofs.YtggpejjfgphihaaDoor.Given Go.Proofs.YtggpejjfgphihaaDoor.D Go.RowKit Go.Proofs.YtggpejjfgphihaaDoorW.PrintWords Go.Proofs.YtggpejjfgphihaaDoorW.PrintLast Go.Proofs.YtggpejjfgphihaaDoorW.PrintMore
attribute [local go_sem] max2_int min2_int max_two min_two max_three min_three max_four min_four
set_option linter.unusedVariables false
set_option linter.unusedSimpArgs false
def marlineref09_Right.f (a0 : Int) : Option (Bool) := if (Int.tmod a0 2) = 1 then (if (Int.tmod (wrap64 (Int.tdiv a0 256)) 2) = 0 then (some (a0 != 255)) else (some false)) else (some false)
set_option maxHeartbeats 8000000 in
set_option maxRecDepth 100000 in
theorem marlineref09_Right.calls (a0 : Int) (r : Bool) (w : World) (h : marlineref09_Right.f a0 = some r) :
    Calls Tryd.prog 34 #[.int .i64 a0] w fun e w' => e = .returned (.bool r) ∧ Drawn0 w w' := by
  have H : (if (Int.tmod a0 2) = 1 then (if (Int.tmod (wrap64 (Int.tdiv a0 256)) 2) = 0 then (some (a0 != 255)) else (some false)) else (some false)) = some r := h
  clear h
  by_cases c2 : (Int.tmod a0 2) = 1
  · rw [if_pos c2] at H
    have c2b0 : ((Int.tmod a0 2) == 1) = true := beq_iff_eq.mpr c2
    have c2b1 : ((Int.tmod a0 2) != 1) = false := bne_eq_false_iff_eq.mpr c2
    clear c2
    by_cases c3 : (Int.tmod (wrap64 (Int.tdiv a0 256)) 2) = 0
    · rw [if_pos c3] at H
      have c3b0 : ((Int.tmod (wrap64 (Int.tdiv a0 256)) 2) == 0) = true := beq_iff_eq.mpr c3
      have c3b1 : ((Int.tmod (wrap64 (Int.tdiv a0 256)) 2) != 0) = false := bne_eq_false_iff_eq.mpr c3
      clear c3
      obtain rfl := Option.some.inj H
      go_enter Tryd.func34, Tryd.ntmps34
      go_wp2
      go_ret
      exact ⟨by first | rfl | (simp; done) | (simp [*]; done), by repeat (first | exact Drawn0.refl _ | apply Drawn0.step)⟩
    · rw [if_neg c3] at H
      have c3b0 : ((Int.tmod (wrap64 (Int.tdiv a0 256)) 2) == 0) = false := beq_eq_false_iff_ne.mpr c3
      have c3b1 : ((Int.tmod (wrap64 (Int.tdiv a0 256)) 2) != 0) = true := bne_iff_ne.mpr c3
      obtain rfl := Option.some.inj H
      go_enter Tryd.func34, Tryd.ntmps34
      go_wp2
      go_ret
      exact ⟨by first | rfl | (simp; done) | (simp [*]; done), by repeat (first | exact Drawn0.refl _ | apply Drawn0.step)⟩
  · rw [if_neg c2] at H
    have c2b0 : ((Int.tmod a0 2) == 1) = false := beq_eq_false_iff_ne.mpr c2
    have c2b1 : ((Int.tmod a0 2) != 1) = true := bne_iff_ne.mpr c2
    obtain rfl := Option.some.inj H
    go_enter Tryd.func34, Tryd.ntmps34
    go_wp2
    go_ret
    exact ⟨by first | rfl | (simp; done) | (simp [*]; done), by repeat (first | exact Drawn0.refl _ | apply Drawn0.step)⟩
end Go.Proofs.YtggpejjfgphihaaDoor.H
end

section
namespace Go.Proofs.YtggpejjfgphihaaDoor.Pu
open Go.RowKit Go.Proofs.YtggpejjfgphihaaDoorW.PrintWords Go.Proofs.YtggpejjfgphihaaDoorW.PrintLast Go.Proofs.YtggpejjfgphihaaDoorW.PrintMore
open Go.Proofs.YtggpejjfgphihaaDoor.Given Go.Proofs.YtggpejjfgphihaaDoor.D Go.Proofs.YtggpejjfgphihaaDoor.H
set_option linter.unusedVariables false
set_option linter.unusedSimpArgs false
def right (p : Nat) : Bool := decide (p % 2 = 1) && decide (p / 256 % 2 = 0) && decide (p ≠ 255)
theorem and_bit (p : Nat) : p &&& 2 ^ 8 = 256 * (p / 256 % 2) := by
  have ht : p.testBit 8 = decide (p / 256 % 2 = 1) := by rw [Nat.testBit_eq_decide_div_mod_eq]
  rcases Nat.mod_two_eq_zero_or_one (p / 256) with h2 | h2
  · rw [h2]
    apply Nat.eq_of_testBit_eq
    intro i
    rw [Nat.testBit_and, Nat.testBit_two_pow]
    by_cases hi : 8 = i
    · subst hi; rw [ht, h2]; decide
    · simp [hi]
  · rw [h2]
    apply Nat.eq_of_testBit_eq
    intro i
    rw [Nat.testBit_and, show 256 * 1 = 2 ^ 8 by decide, Nat.testBit_two_pow]
    by_cases hi : 8 = i
    · subst hi; rw [ht, h2]; decide
    · simp [hi]
theorem and257 (p : Nat) : p &&& 257 = p % 2 + 256 * (p / 256 % 2) := by
  have e : (257 : Nat) = 1 ||| 2 ^ 8 := by decide
  rw [e, Nat.and_or_distrib_left, Nat.and_one_is_mod, and_bit]
  rcases Nat.mod_two_eq_zero_or_one p with h1 | h1 <;> rcases Nat.mod_two_eq_zero_or_one (p / 256) with h2 | h2 <;> rw [h1, h2] <;> decide
theorem f_Right (p : Nat) (hp : p < 65536) : proto_Right.f (p : Int) = some (right p) := by
  unfold proto_Right.f
  rw [show (257 : Int) = ((257 : Nat) : Int) from rfl, and_u16 p 257 (by omega) (by decide), and257]
  have h1 : p % 2 < 2 := Nat.mod_lt _ (by decide)
  have h2 : p / 256 % 2 < 2 := Nat.mod_lt _ (by decide)
  unfold right
  by_cases a : p % 2 = 1
  · by_cases b : p / 256 % 2 = 0
    · rw [if_pos (by omega)]; simp [a, b]; rw [Bool.eq_iff_iff]; simp; omega
    · rw [if_neg (by omega)]; simp [a, b]
  · rw [if_neg (by omega)]; simp [a]
theorem r_Right (p : Nat) (hp : p < 65536) : marlineref09_Right.f (p : Int) = some (right p) := by
  unfold marlineref09_Right.f right
  rw [tmod2 p, show Int.tdiv (p : Int) 256 = ((p / 256 : Nat) : Int) from tdivN p 256, w64 (p / 256) (by omega), tmod2]
  by_cases a : p % 2 = 1
  · by_cases b : p / 256 % 2 = 0
    · rw [if_pos (by omega), if_pos (by omega)]; simp [a, b]; rw [Bool.eq_iff_iff]; simp; omega
    · rw [if_pos (by omega), if_neg (by omega)]; simp [a, b]
  · rw [if_neg (by omega)]; simp [a]
def numN (p : Nat) (short : Bool) : List Nat := if short = true ∧ p < 256 then [p % 256] else [p / 256, p % 256]
theorem numN_lt (p : Nat) (short : Bool) (hp : p < 65536) : ∀ x ∈ numN p short, x < 256 := by
  unfold numN
  split <;> simp <;> omega
theorem numN_len (p : Nat) (short : Bool) : 1 ≤ (numN p short).length ∧ (numN p short).length ≤ 2 := by
  unfold numN
  split <;> simp
theorem u64w (n : Nat) (h : n < 18446744073709551616) : IntKind.u64.wrap (n : Int) = (n : Int) := by
  simp [IntKind.wrap, IntKind.bits, IntKind.signed]; omega
theorem u16w (n : Nat) (h : n < 65536) : IntKind.u16.wrap (n : Int) = (n : Int) := by
  simp [IntKind.wrap, IntKind.bits, IntKind.signed]; omega
theorem wa : wrap64 (2 - 1) = 1 := by unfold wrap64; omega
theorem wb : wrap64 (1 - 1) = 0 := by unfold wrap64; omega
theorem wc : wrap64 (0 - 1) = -1 := by unfold wrap64; omega
theorem wd : wrap64 (8 * 1) = 8 := by unfold wrap64; omega
theorem we : wrap64 (8 * 0) = 0 := by unfold wrap64; omega
theorem wirePut2 (k : Nat) (p : Nat) (hp : p < 65536) : wire_Put.f (k + 3) ([] : List Int) (p : Int) 2 = some [((p / 256 : Nat) : Int), ((p % 256 : Nat) : Int)] := by
  unfold wire_Put.f
  rw [wa, wire_Put.l0, if_pos (by omega), wd, if_pos (by omega), if_pos (by simp), wb, wire_Put.l0, if_pos (by omega), we, if_pos (by omega), if_pos (by simp), wc, wire_Put.l0, if_neg (by omega)]
  have e1 : shr .u64 (p : Int) 8 % 256 = ((p / 256 : Nat) : Int) := by
    unfold shr
    rw [show min (8 : Int).toNat IntKind.u64.bits = 8 by decide]; omega
  have e2 : shr .u64 (p : Int) 0 % 256 = ((p % 256 : Nat) : Int) := by
    unfold shr
    rw [show min (0 : Int).toNat IntKind.u64.bits = 0 by decide]; omega
  rw [e1, e2]; rfl
theorem f_Put (k p : Nat) (short : Bool) (hp : p < 65536) : proto_Put.f (k + 3) (p : Int) short = some (ofN (numN p short)) := by
  unfold proto_Put.f numN
  rw [u64w p (by omega), wirePut2 k p hp, Option.bind_some]
  cases short
  · simp [ofN]
  · by_cases h : p < 256
    · have h2 : (p : Int) < 256 := by omega
      simp [proto_Short.f, h, h2, ofN]
    · have h2 : ¬ (p : Int) < 256 := by omega
      simp [proto_Short.f, h, h2, ofN]
def headN (acfc pfc : Bool) (p : Nat) : List Nat := if acfc = true ∧ p ≠ 49185 then numN p pfc else 255 :: 3 :: numN p (pfc && decide (p ≠ 49185))
theorem f_head (k p : Nat) (hp : p < 65536) (a b acfc pfc : Bool) (x y z : Int) : head_Put.f (k + 3) a b acfc pfc x y z (p : Int) = some (ofN (headN acfc pfc p)) := by
  unfold head_Put.f headN
  have e : (((p : Int) == 49185) : Bool) = decide (p = 49185) := by rw [Bool.eq_iff_iff]; simp; omega
  rw [e, f_Put k p _ hp, Option.bind_some]
  have hl := numN_len p (pfc && !decide (p = 49185))
  have hd : (!decide (p = 49185)) = decide (p ≠ 49185) := by simp
  rw [hd] at hl ⊢
  by_cases h : p = 49185
  · simp only [h, ne_eq, not_true, decide_false, Bool.and_false, Bool.false_eq_true, if_false, and_false] at hl ⊢
    rw [if_pos (by rw [ofN_length]; omega)]; simp [ofN]
  · cases acfc
    · simp only [h, ne_eq, not_false_eq_true, decide_true, Bool.false_and, Bool.and_true, Bool.false_eq_true, if_false, false_and] at hl ⊢
      rw [if_pos (by rw [ofN_length]; omega)]; simp [ofN]
    · simp only [h, ne_eq, not_false_eq_true, decide_true, Bool.true_and, Bool.and_true, if_true, true_and]
def getN (l : List Nat) (short : Bool) : Nat × Nat × Nat :=
  match l with
  | [] => (0, 0, 2)
  | c :: l => if c % 2 = 0 then (match l with
    | [] => (0, 0, 2)
    | d :: _ => if right (256 * c + d) = true then (256 * c + d, 2, 0) else (0, 0, 7))
    else if right c = true ∧ short = true then (c, 1, 0) else (0, 0, 7)
def tri (t : Nat × Nat × Nat) : Int × Int × Int := ((t.1 : Int), (t.2.1 : Int), (t.2.2 : Int))
theorem or64 (a b : Nat) (ha : a < 2 ^ 64) (hb : b < 2 ^ 64) : Go.bits .or .u64 (a : Int) (b : Int) = ((a ||| b : Nat) : Int) := by
  have h : a ||| b < 2 ^ IntKind.u64.bits := Nat.or_lt_two_pow ha hb
  have e1 : a % 2 ^ IntKind.u64.bits = a := Nat.mod_eq_of_lt ha
  have e2 : b % 2 ^ IntKind.u64.bits = b := Nat.mod_eq_of_lt hb
  simp only [Go.bits, BitVec.ofInt_natCast, BitVec.toNat_or, BitVec.toNat_ofNat, e1, e2]
  exact u64w _ h
theorem wireGet2 (k : Nat) (c d : Nat) (l : List Nat) (hc : c < 256) (hd : d < 256) : wire_Get.f (k + 3) (ofN (c :: d :: l)) 2 = some ((256 * c + d : Nat) : Int) := by
  have ht : (ofN (c :: d :: l)).take (2 : Int).toNat = [(c : Int), (d : Int)] := rfl
  have hl : (2 : Int) ≤ ((ofN (c :: d :: l)).length : Int) := by rw [ofN_length]; simp only [List.length_cons]; omega
  have e1 : IntKind.u64.wrap (0 * 256) = ((0 : Nat) : Int) := by decide
  have e2 : wrap64 (0 + 1) = 1 := by unfold wrap64; omega
  have e3 : wrap64 (1 + 1) = 2 := by unfold wrap64; omega
  have r0 : rd [(c : Int), (d : Int)] 0 = (c : Int) := rfl
  have r1 : rd [(c : Int), (d : Int)] 1 = (d : Int) := rfl
  unfold wire_Get.f
  rw [if_pos (by omega), if_pos hl, ht]
  rw [wire_Get.l0, if_pos (by simp), if_pos (by omega), if_pos (by simp), e1, r0, u64w c (by omega), or64 0 c (by omega) (by omega), Nat.zero_or, e2]
  rw [wire_Get.l0, if_pos (by simp), if_pos (by omega), if_pos (by simp), r1, show (c : Int) * 256 = ((c * 256 : Nat) : Int) by omega, u64w (c * 256) (by omega), u64w d (by omega), or64 _ _ (by omega) (by omega), e3]
  rw [wire_Get.l0, if_neg (by simp)]
  have := Nat.two_pow_add_eq_or_of_lt (i := 8) (b := d) hd c
  rw [show c * 256 = 2 ^ 8 * c by omega, ← this]
theorem f_Get (k : Nat) (l : List Nat) (hl : ∀ x ∈ l, x < 256) (short : Bool) : proto_Get.f (k + 3) (ofN l) short = some (tri (getN l short)) := by
  unfold proto_Get.f
  match l with
  | [] => rfl
  | [c] =>
    have hc := hl c List.mem_cons_self
    have r0 : rd (ofN [c]) 0 = (c : Int) := rfl
    have eb : Go.bits .and .u8 (c : Int) 1 = ((c % 2 : Nat) : Int) := by
      rw [show (1 : Int) = ((1 : Nat) : Int) from rfl, and_u8 c 1 (by omega) (by decide), Nat.and_one_is_mod]
    rw [if_neg (by simp [ofN]), if_pos (by simp [ofN]), r0, eb, u16w c (by omega), f_Right c (by omega)]
    unfold getN
    by_cases h : c % 2 = 0
    · rw [if_pos (by omega), if_pos (by simp [ofN])]; simp [h, tri]
    · rw [if_neg (by omega)]
      cases hr : right c <;> cases short <;> simp [h, tri, hr]
  | c :: d :: l =>
    have hc := hl c List.mem_cons_self
    have hd := hl d (List.mem_cons_of_mem _ List.mem_cons_self)
    have r0 : rd (ofN (c :: d :: l)) 0 = (c : Int) := rfl
    have eb : Go.bits .and .u8 (c : Int) 1 = ((c % 2 : Nat) : Int) := by
      rw [show (1 : Int) = ((1 : Nat) : Int) from rfl, and_u8 c 1 (by omega) (by decide), Nat.and_one_is_mod]
    rw [if_neg (by simp [ofN]; omega), if_pos (by simp [ofN]; omega), r0, eb, u16w c (by omega), f_Right c (by omega)]
    unfold getN
    by_cases h : c % 2 = 0
    · rw [if_pos (by omega), if_neg (by simp [ofN]; omega), wireGet2 k c d l hc hd, Option.bind_some, u16w _ (by omega), f_Right _ (by omega), Option.bind_some]
      cases hr : right (256 * c + d) <;> simp [h, tri, hr]
    · rw [if_neg (by omega)]
      cases hr : right c <;> cases short <;> simp [h, tri, hr]
def begins (l : List Nat) : Bool := match l with
  | a :: b :: _ => decide (a = 255) && decide (b = 3)
  | _ => false
theorem f_begins (l : List Nat) (hl : ∀ x ∈ l, x < 256) : bytes_HasPrefix.f (ofN l) [255, 3] = some (begins l) := by
  unfold bytes_HasPrefix.f
  match l with
  | [] => simp [begins, ofN]
  | [c] => simp [begins, ofN]
  | c :: d :: l =>
    have hc := hl c List.mem_cons_self
    have hd := hl d (List.mem_cons_of_mem _ List.mem_cons_self)
    have hlen : ((ofN (c :: d :: l)).length : Int) ≥ (([255, 3] : List Int).length : Int) := by rw [ofN_length]; simp only [List.length_cons, List.length_nil]; omega
    have ht : (ofN (c :: d :: l)).take ((([255, 3] : List Int).length : Int) : Int).toNat = [(c : Int), (d : Int)] := rfl
    rw [if_pos hlen, if_pos (by omega), if_pos hlen, ht]
    unfold bytes_Equal.f
    rw [Lib.strOfNums_toList, Lib.strOfNums_toList, Option.bind_some]
    unfold begins Lib.bytesOf
    congr 1
    rw [Bool.eq_iff_iff]
    simp only [List.map_cons, List.map_nil, beq_iff_eq, List.cons.injEq, and_true, Bool.and_eq_true, decide_eq_true_eq, Int.toNat_natCast]
    have hu : ∀ x y : Nat, x < 256 → y < 256 → (UInt8.ofNat x = UInt8.ofNat y ↔ x = y) := by
      intro x y hx hy
      constructor
      · intro h
        have := congrArg UInt8.toNat h
        simpa [UInt8.toNat_ofNat', Nat.mod_eq_of_lt hx, Nat.mod_eq_of_lt hy] using this
      · rintro rfl; rfl
    rw [show (255 : Int).toNat = 255 from rfl, show (3 : Int).toNat = 3 from rfl, hu c 255 hc (by decide), hu d 3 hd (by decide)]
def getHead (acfc pfc : Bool) (l : List Nat) : Nat × Nat × Nat :=
  if begins l = false ∧ acfc = false then (0, 0, 7) else
    let t := getN (if begins l = true then l.drop 2 else l) pfc
    if t.2.2 = 0 then (t.1, (if begins l = true then 2 else 0) + t.2.1, 0) else (0, 0, 7)
theorem getN_le (l : List Nat) (s : Bool) : (getN l s).2.1 ≤ 2 := by
  unfold getN
  split
  · simp
  · split
    · split
      · simp
      · split <;> simp
    · split <;> simp
theorem begins_len (l : List Nat) (h : begins l = true) : 2 ≤ l.length := by
  match l, h with
  | a :: b :: l, _ => simp
theorem f_getHead (k : Nat) (a b acfc pfc : Bool) (x y z : Int) (l : List Nat) (hl : ∀ x ∈ l, x < 256) (hlen : l.length < 4611686018427387904) : head_Get.f (k + 3) a b acfc pfc x y z (ofN l) = some (tri (getHead acfc pfc l)) := by
  unfold head_Get.f
  rw [f_begins l hl, Option.bind_some]
  unfold getHead
  by_cases hb : begins l = true
  · have hlen2 := begins_len l hb
    have hcut : cutOf true (ofN l) [255, 3] = ofN (l.drop 2) := by unfold cutOf; rw [if_pos rfl]; exact ofN_drop 2 l
    have h2 := getN_le (l.drop 2) pfc
    simp only [hb, hcut, if_true, Bool.true_eq_false, false_and, if_false, f_Get k _ (fun x hx => hl x (List.mem_of_mem_drop hx)) pfc, Option.bind_some, ofN_length, List.length_drop]
    generalize getN (l.drop 2) pfc = t at *
    obtain ⟨t1, t2, t3⟩ := t
    simp only [tri] at h2 ⊢
    have : wrap64 (wrap64 ((l.length : Int) - ((l.length - 2 : Nat) : Int)) + (t2 : Int)) = ((2 + t2 : Nat) : Int) := by unfold wrap64; omega
    rw [this]
    by_cases h3 : t3 = 0
    · subst h3; rfl
    · have h3' : ¬ (t3 : Int) = 0 := by omega
      simp [tri, h3, h3']
  · have hb' : begins l = false := by simpa using hb
    have hcut : cutOf false (ofN l) [255, 3] = ofN l := by unfold cutOf; rw [if_neg (by decide)]
    simp only [hb', hcut, if_true, true_and, Bool.false_eq_true, if_false, f_Get k _ hl pfc, Option.bind_some, ofN_length]
    have h2 := getN_le l pfc
    cases acfc
    · simp [tri]
    · simp only [Bool.true_eq_false, if_false]
      generalize getN l pfc = t at *
      obtain ⟨t1, t2, t3⟩ := t
      simp only [tri] at h2 ⊢
      have : wrap64 (wrap64 ((l.length : Int) - (l.length : Int)) + (t2 : Int)) = ((0 + t2 : Nat) : Int) := by unfold wrap64; omega
      rw [this]
      by_cases h3 : t3 = 0
      · subst h3; rfl
      · have h3' : ¬ (t3 : Int) = 0 := by omega
        simp [tri, h3, h3']
end Go.Proofs.YtggpejjfgphihaaDoor.Pu
end

section
namespace Go.Proofs.YtggpejjfgphihaaDoor.Pu
open Go.RowKit Go.Proofs.YtggpejjfgphihaaDoorW.PrintWords Go.Proofs.YtggpejjfgphihaaDoorW.PrintLast Go.Proofs.YtggpejjfgphihaaDoorW.PrintMore
open Go.Proofs.YtggpejjfgphihaaDoor.Given Go.Proofs.YtggpejjfgphihaaDoor.D Go.Proofs.YtggpejjfgphihaaDoor.H
set_option linter.unusedVariables false
set_option linter.unusedSimpArgs false
theorem getN_one (c : Nat) (short : Bool) : getN [c] short = if c % 2 = 0 then (0, 0, 2) else if right c = true ∧ short = true then (c, 1, 0) else (0, 0, 7) := rfl
theorem getN_two (c d : Nat) (l : List Nat) (short : Bool) : getN (c :: d :: l) short = if c % 2 = 0 then (if right (256 * c + d) = true then (256 * c + d, 2, 0) else (0, 0, 7)) else if right c = true ∧ short = true then (c, 1, 0) else (0, 0, 7) := rfl
end Go.Proofs.YtggpejjfgphihaaDoor.Pu
end

section
namespace Go.Proofs.YtggpejjfgphihaaDoor.B
open Go.Proofs.YtggpejjfgphihaaDoor.Given Go.Proofs.YtggpejjfgphihaaDoor.D Go.Proofs.YtggpejjfgphihaaDoor.H Go.RowKit Go.Proofs.YtggpejjfgphihaaDoorW.PrintWords Go.Proofs.YtggpejjfgphihaaDoorW.PrintLast Go.Proofs.YtggpejjfgphihaaDoorW.PrintMore
attribute [local go_sem] max2_int min2_int max_two min_two max_three min_three max_four min_four
set_option linter.unusedVariables false
set_option linter.unusedSimpArgs false
def errW : Option Int → Value
  | none => .nilIface
  | some c => .iface 0 (.int .i64 c)
theorem errW_none : errW none = .nilIface := rfl
theorem errW_some (c : Int) : errW (some c) = .iface 0 (.int .i64 c) := rfl
theorem info5 : (Tryd.prog.info? 5).map (fun i => (i.zero, i.size, i.bytes)) = some (some (.int .u8 0), 1, 1) := by kernel_rfl
structure S24 where
  f0 : Bool
  f1 : Bool
  f2 : Bool
  f3 : Bool
  f4 : Int
  f5 : Int
  f6 : Int
def z24 : S24 := ⟨false, false, false, false, (0 : Int), (0 : Int), (0 : Int)⟩
end Go.Proofs.YtggpejjfgphihaaDoor.B
end

section
namespace Go.Proofs.YtggpejjfgphihaaDoor.B
open Go.Proofs.YtggpejjfgphihaaDoor.Given Go.Proofs.YtggpejjfgphihaaDoor.D Go.Proofs.YtggpejjfgphihaaDoor.H Go.RowKit Go.Proofs.YtggpejjfgphihaaDoorW.PrintWords Go.Proofs.YtggpejjfgphihaaDoorW.PrintLast Go.Proofs.YtggpejjfgphihaaDoorW.PrintMore
attribute [local go_sem] max2_int min2_int max_two min_two max_three min_three max_four min_four
set_option linter.unusedVariables false
set_option linter.unusedSimpArgs false
def marlinelaw10_speaks.f (k : Nat)  : Option (Bool) := (head_Put.f k false false true true 0 0 0 33).bind fun t101 => ((marlineref01_Equal.f k t101 (([33] : List Int))).bind fun t107 => (if t107 = true then ((head_Put.f k false false false false 0 0 0 33).bind fun t108 => ((marlineref01_Equal.f k t108 (([255, 3, 0, 33] : List Int))).bind fun t114 => (some t114))) else (some false)))
set_option maxHeartbeats 8000000 in
set_option maxRecDepth 100000 in
theorem marlinelaw10_speaks.calls (k : Nat)  (r : Bool) (w : World) (hgH : GH w) (h : marlinelaw10_speaks.f k  = some r) :
    Calls Tryd.prog 28 #[] w fun e w' => e = .returned (.bool r) ∧ Below w.heap.size w w' := by
  have hu26 := Tryd.underlying26
  have HGH := Aside0.mk hgH
  clear hgH
  have HB := Aside0.mk (Below.refl w.heap.size w)
  have H : ((head_Put.f k false false true true 0 0 0 33).bind fun t101 => ((marlineref01_Equal.f k t101 (([33] : List Int))).bind fun t107 => (if t107 = true then ((head_Put.f k false false false false 0 0 0 33).bind fun t108 => ((marlineref01_Equal.f k t108 (([255, 3, 0, 33] : List Int))).bind fun t114 => (some t114))) else (some false)))) = some r := h
  clear h
  replace H := Option.bind_eq_some_iff.mp H
  obtain ⟨t101, A10, H⟩ := H
  replace H : ((marlineref01_Equal.f k t101 (([33] : List Int))).bind fun t107 => (if t107 = true then ((head_Put.f k false false false false 0 0 0 33).bind fun t108 => ((marlineref01_Equal.f k t108 (([255, 3, 0, 33] : List Int))).bind fun t114 => (some t114))) else (some false))) = some r := H
  have A1 := Aside0.mk A10
  clear A10
  obtain ⟨y104, hy104⟩ : ∃ y_ : List Int, y_ = (([33] : List Int)) := ⟨_, rfl⟩
  replace H : ((marlineref01_Equal.f k t101 y104).bind fun t107 => (if t107 = true then ((head_Put.f k false false false false 0 0 0 33).bind fun t108 => ((marlineref01_Equal.f k t108 (([255, 3, 0, 33] : List Int))).bind fun t114 => (some t114))) else (some false))) = some r := by first | (rw [hy104]; with_reducible exact H) | (have H2_ := (Option.bind_some _ _).symm.trans H; rw [hy104]; with_reducible exact H2_) | (have H2_ := (Option.bind_some _ _).symm.trans H; with_reducible exact H2_) | with_reducible exact H | (rw [hy104]; exact H) | exact H
  have Ny104 := Aside0.mk hy104
  clear hy104
  replace H := Option.bind_eq_some_iff.mp H
  obtain ⟨t107, A20, H⟩ := H
  replace H : (if t107 = true then ((head_Put.f k false false false false 0 0 0 33).bind fun t108 => ((marlineref01_Equal.f k t108 (([255, 3, 0, 33] : List Int))).bind fun t114 => (some t114))) else (some false)) = some r := H
  have A2 := Aside0.mk A20
  clear A20
  by_cases c3 : t107 = true
  · subst c3
    have H1 : ((head_Put.f k false false false false 0 0 0 33).bind fun t108 => ((marlineref01_Equal.f k t108 (([255, 3, 0, 33] : List Int))).bind fun t114 => (some t114))) = some r := by rw [if_pos rfl] at H; exact H
    clear H
    have H := H1
    clear H1
    replace H := Option.bind_eq_some_iff.mp H
    obtain ⟨t108, A40, H⟩ := H
    replace H : ((marlineref01_Equal.f k t108 (([255, 3, 0, 33] : List Int))).bind fun t114 => (some t114)) = some r := H
    have A4 := Aside0.mk A40
    clear A40
    obtain ⟨y111, hy111⟩ : ∃ y_ : List Int, y_ = (([255, 3, 0, 33] : List Int)) := ⟨_, rfl⟩
    replace H : ((marlineref01_Equal.f k t108 y111).bind fun t114 => (some t114)) = some r := by first | (rw [hy111]; with_reducible exact H) | (have H2_ := (Option.bind_some _ _).symm.trans H; rw [hy111]; with_reducible exact H2_) | (have H2_ := (Option.bind_some _ _).symm.trans H; with_reducible exact H2_) | with_reducible exact H | (rw [hy111]; exact H) | exact H
    have Ny111 := Aside0.mk hy111
    clear hy111
    replace H := Option.bind_eq_some_iff.mp H
    obtain ⟨t114, A50, H⟩ := H
    replace H : (some t114) = some r := H
    have A5 := Aside0.mk A50
    clear A50
    obtain rfl := Option.some.inj H
    go_enter Tryd.func28, Tryd.ntmps28
    go_wp2_with (first | ((with_reducible refine gate_callee (f := 32) rfl ?_); refine goesL_ (some 2) rfl rfl Tryd.func32 (by kernel_rfl) rfl #[.agg #[.bool false, .bool false, .bool true, .bool true, .int .u32 0, .int .u32 0, .int .i64 0], .int .u16 33] rfl (by (try simp only [List.map_toArray, List.map_cons, List.map_nil]); first | done | rfl | (simp only [List.length_drop, List.length_take]; rfl)) ?_; (with_reducible refine (head_Put.calls k false false true true 0 0 0 33 t101 _ ?side1 A1.out).mono ?_); (case side1 => repeat (first | exact HGH.out | (with_reducible refine GH_alloc ?_ _) | (with_reducible refine GH_drewN ?_ _) | (with_reducible refine GH_drew ?_))); rintro e w6 ⟨v102, rfl, ho0, hb⟩; refine ⟨_, rfl, ?_⟩; have n0_ := Aside0.mk (Kd.Q_lower ho0 (below_size (by repeat (first | (with_reducible first | exact HB.out | apply below_alloc | apply pw_below_drewN | apply below_drew1) | exact HB.out)))); have n1_ := Aside0.mk (below_step (by repeat (first | (with_reducible first | exact HB.out | apply below_alloc | apply pw_below_drewN | apply below_drew1) | exact HB.out)) hb); clear HB; have HO103 := n0_; have HB := n1_; clear n0_ n1_; (try clear hb); (try clear hb2); (try clear hk); (try clear hi); (try clear ho0)) | ((with_reducible refine gate_dst (N := 3) rfl ?_); (try (refine gate_guard (by rfl) ?_; dsimp only)); refine Kd.R_lit (Kd.int .u8) _ 5 ?hg (N := 3) ?hd (xs := ([33] : List Int)) (inner := [.int .u8 33]) (ok := fun _ => True) (okp := fun _ => True) ?hr ?hp (fun _ hk => hk) trivial (Below.refl _ _) (Nat.le_refl _) (by simp) ?_; (case hd => rfl); (case hg => rfl); (case hr => first | (go_simp; done) | (go_simp; rfl)); (case hp => exact (Reps.one (show Kd.M (Kd.int .u8) _ _ _ 33 [.int .u8 33] from rfl) (Reps.none _ _))); intro v105 w7 ho8 hb hg_ hnew_; clear hg_ hnew_; (first | rw [← Ny104.out] at ho8 | (simp only [Int.reduceToNat] at ho8; rw [← Ny104.out] at ho8)); have n0_ := Aside0.mk (Kd.Q_elder' (by (with_reducible repeat (first | apply Kd.Q_alloc | apply Kd.Q_drewN | apply Kd.Q_drew)); exact HO103.out) (Kd.R_base ho8) hb); have n1_ := Aside0.mk (Kd.R_lower (Kd.R_new' ho8 (Kd.Q_lt (by (with_reducible repeat (first | apply Kd.Q_alloc | apply Kd.Q_drewN | apply Kd.Q_drew)); exact HO103.out))) (below_size (by repeat (first | (with_reducible first | exact HB.out | apply below_alloc | apply pw_below_drewN | apply below_drew1) | exact HB.out)))); have n2_ := Aside0.mk (below_step (by repeat (first | (with_reducible first | exact HB.out | apply below_alloc | apply pw_below_drewN | apply below_drew1) | exact HB.out)) hb); clear HO103; clear HB; have HO103 := n0_; have HO106 := n1_; have HB := n2_; clear n0_ n1_ n2_; clear hb ho8; obtain ⟨Ao9, co9, eo9, _⟩ := Kd.Q_slice HO103.out; subst eo9; obtain ⟨Ao10, co10, eo10⟩ := Kd.R_slice HO106.out; subst eo10) | ((with_reducible refine gate_callee (f := 31) rfl ?_); refine goesL_ (some 4) rfl rfl Tryd.func31 (by kernel_rfl) rfl #[.slice Ao9 t101.length co9, .slice Ao10 y104.length co10] rfl (by (try simp only [List.map_toArray, List.map_cons, List.map_nil]); first | done | rfl | (simp only [List.length_drop, List.length_take]; rfl)) ?_; (with_reducible refine (marlineref01_Equal.calls k _ _ t101 _ _ y104 true _ ?side1 ?side2 ?side3 ?side4 A2.out).mono ?_); (case side1 => repeat (first | exact (Kd.Q_reads' HO103.out).2.2 | (with_reducible refine Kd.C_alloc ?_ _) | (with_reducible refine Kd.C_drewN ?_ _) | (with_reducible refine Kd.C_drew ?_))); (case side2 => exact (Kd.Q_reads' HO103.out).2.1); (case side3 => repeat (first | exact (Kd.R_reads' HO106.out).2.2 | (with_reducible refine Kd.C_alloc ?_ _) | (with_reducible refine Kd.C_drewN ?_ _) | (with_reducible refine Kd.C_drew ?_))); (case side4 => exact (Kd.R_reads' HO106.out).2.1); rintro e w' ⟨rfl, ⟨nd, rfl⟩⟩; refine ⟨_, rfl, ?_⟩) | (go_at_call 32; (with_reducible refine (head_Put.calls k false false false false 0 0 0 33 t108 _ ?side1 A4.out).mono ?_); (case side1 => repeat (first | exact (GH_below HGH.out (by repeat (first | (with_reducible first | exact HB.out | apply below_alloc | apply pw_below_drewN | apply below_drew1) | exact HB.out))) | (with_reducible refine GH_alloc ?_ _) | (with_reducible refine GH_drewN ?_ _) | (with_reducible refine GH_drew ?_))); rintro e w11 ⟨v109, rfl, ho0, hb⟩; have n0_ := Aside0.mk (Kd.Q_elder' (by (with_reducible repeat (first | apply Kd.Q_alloc | apply Kd.Q_drewN | apply Kd.Q_drew)); exact HO103.out) (Kd.Q_base ho0) hb); have n1_ := Aside0.mk (Kd.R_elder' (by (with_reducible repeat (first | apply Kd.R_alloc | apply Kd.R_drewN | apply Kd.R_drew)); exact HO106.out) (Kd.Q_base ho0) hb); have n2_ := Aside0.mk (Kd.Q_lower (Kd.Q_new' (Kd.Q_new' ho0 (Kd.Q_lt (by (with_reducible repeat (first | apply Kd.Q_alloc | apply Kd.Q_drewN | apply Kd.Q_drew)); exact HO103.out))) (Kd.R_lt (by (with_reducible repeat (first | apply Kd.R_alloc | apply Kd.R_drewN | apply Kd.R_drew)); exact HO106.out))) (below_size (by repeat (first | (with_reducible first | exact HB.out | apply below_alloc | apply pw_below_drewN | apply below_drew1) | exact HB.out)))); have n3_ := Aside0.mk (below_step (by repeat (first | (with_reducible first | exact HB.out | apply below_alloc | apply pw_below_drewN | apply below_drew1) | exact HB.out)) hb); clear HO103; clear HO106; clear HB; have HO103 := n0_; have HO106 := n1_; have HO110 := n2_; have HB := n3_; clear n0_ n1_ n2_ n3_; (try clear hb); (try clear hb2); (try clear hk); (try clear hi); (try clear ho0)) | ((with_reducible refine gate_dst (N := 8) rfl ?_); (try (refine gate_guard (by rfl) ?_; dsimp only)); refine Kd.R_lit (Kd.int .u8) _ 5 ?hg (N := 8) ?hd (xs := ([255, 3, 0, 33] : List Int)) (inner := [.int .u8 255, .int .u8 3, .int .u8 0, .int .u8 33]) (ok := fun _ => True) (okp := fun _ => True) ?hr ?hp (fun _ hk => hk) trivial (Below.refl _ _) (Nat.le_refl _) (by simp) ?_; (case hd => rfl); (case hg => rfl); (case hr => first | (go_simp; done) | (go_simp; rfl)); (case hp => exact (Reps.one (show Kd.M (Kd.int .u8) _ _ _ 255 [.int .u8 255] from rfl) (Reps.one (show Kd.M (Kd.int .u8) _ _ _ 3 [.int .u8 3] from rfl) (Reps.one (show Kd.M (Kd.int .u8) _ _ _ 0 [.int .u8 0] from rfl) (Reps.one (show Kd.M (Kd.int .u8) _ _ _ 33 [.int .u8 33] from rfl) (Reps.none _ _)))))); intro v112 w12 ho13 hb hg_ hnew_; clear hg_ hnew_; (first | rw [← Ny111.out] at ho13 | (simp only [Int.reduceToNat] at ho13; rw [← Ny111.out] at ho13)); have n0_ := Aside0.mk (Kd.Q_elder' (by (with_reducible repeat (first | apply Kd.Q_alloc | apply Kd.Q_drewN | apply Kd.Q_drew)); exact HO103.out) (Kd.R_base ho13) hb); have n1_ := Aside0.mk (Kd.R_elder' (by (with_reducible repeat (first | apply Kd.R_alloc | apply Kd.R_drewN | apply Kd.R_drew)); exact HO106.out) (Kd.R_base ho13) hb); have n2_ := Aside0.mk (Kd.Q_elder' (by (with_reducible repeat (first | apply Kd.Q_alloc | apply Kd.Q_drewN | apply Kd.Q_drew)); exact HO110.out) (Kd.R_base ho13) hb); have n3_ := Aside0.mk (Kd.R_lower (Kd.R_new' (Kd.R_new' (Kd.R_new' ho13 (Kd.Q_lt (by (with_reducible repeat (first | apply Kd.Q_alloc | apply Kd.Q_drewN | apply Kd.Q_drew)); exact HO103.out))) (Kd.R_lt (by (with_reducible repeat (first | apply Kd.R_alloc | apply Kd.R_drewN | apply Kd.R_drew)); exact HO106.out))) (Kd.Q_lt (by (with_reducible repeat (first | apply Kd.Q_alloc | apply Kd.Q_drewN | apply Kd.Q_drew)); exact HO110.out))) (below_size (by repeat (first | (with_reducible first | exact HB.out | apply below_alloc | apply pw_below_drewN | apply below_drew1) | exact HB.out)))); have n4_ := Aside0.mk (below_step (by repeat (first | (with_reducible first | exact HB.out | apply below_alloc | apply pw_below_drewN | apply below_drew1) | exact HB.out)) hb); clear HO103; clear HO106; clear HO110; clear HB; have HO103 := n0_; have HO106 := n1_; have HO110 := n2_; have HO113 := n3_; have HB := n4_; clear n0_ n1_ n2_ n3_ n4_; clear hb ho13; obtain ⟨Ao14, co14, eo14, _⟩ := Kd.Q_slice HO110.out; subst eo14; obtain ⟨Ao15, co15, eo15⟩ := Kd.R_slice HO113.out; subst eo15) | (go_at_call 31; (with_reducible refine (marlineref01_Equal.calls k _ _ t108 _ _ y111 t114 _ ?side1 ?side2 ?side3 ?side4 A5.out).mono ?_); (case side1 => repeat (first | exact (Kd.Q_reads' HO110.out).2.2 | (with_reducible refine Kd.C_alloc ?_ _) | (with_reducible refine Kd.C_drewN ?_ _) | (with_reducible refine Kd.C_drew ?_))); (case side2 => exact (Kd.Q_reads' HO110.out).2.1); (case side3 => repeat (first | exact (Kd.R_reads' HO113.out).2.2 | (with_reducible refine Kd.C_alloc ?_ _) | (with_reducible refine Kd.C_drewN ?_ _) | (with_reducible refine Kd.C_drew ?_))); (case side4 => exact (Kd.R_reads' HO113.out).2.1); rintro e w' ⟨rfl, ⟨nd, rfl⟩⟩))
    go_ret
    exact ⟨by first | rfl | (simp [errW_none, errW_some] <;> rfl) | (simp [*, errW_none, errW_some] <;> rfl), by repeat (first | (with_reducible first | exact HB.out | apply below_alloc | apply pw_below_drewN | apply below_drew1) | exact HB.out)⟩
  · replace c3 := Bool.eq_false_iff.mpr c3
    subst c3
    have H1 : (some false) = some r := by rw [if_neg (show ¬ (false = true) by decide)] at H; exact H
    clear H
    have H := H1
    clear H1
    obtain rfl := Option.some.inj H
    go_enter Tryd.func28, Tryd.ntmps28
    go_wp2_with (first | ((with_reducible refine gate_callee (f := 32) rfl ?_); refine goesL_ (some 2) rfl rfl Tryd.func32 (by kernel_rfl) rfl #[.agg #[.bool false, .bool false, .bool true, .bool true, .int .u32 0, .int .u32 0, .int .i64 0], .int .u16 33] rfl (by (try simp only [List.map_toArray, List.map_cons, List.map_nil]); first | done | rfl | (simp only [List.length_drop, List.length_take]; rfl)) ?_; (with_reducible refine (head_Put.calls k false false true true 0 0 0 33 t101 _ ?side1 A1.out).mono ?_); (case side1 => repeat (first | exact HGH.out | (with_reducible refine GH_alloc ?_ _) | (with_reducible refine GH_drewN ?_ _) | (with_reducible refine GH_drew ?_))); rintro e w16 ⟨v102, rfl, ho0, hb⟩; refine ⟨_, rfl, ?_⟩; have n0_ := Aside0.mk (Kd.Q_lower ho0 (below_size (by repeat (first | (with_reducible first | exact HB.out | apply below_alloc | apply pw_below_drewN | apply below_drew1) | exact HB.out)))); have n1_ := Aside0.mk (below_step (by repeat (first | (with_reducible first | exact HB.out | apply below_alloc | apply pw_below_drewN | apply below_drew1) | exact HB.out)) hb); clear HB; have HO103 := n0_; have HB := n1_; clear n0_ n1_; (try clear hb); (try clear hb2); (try clear hk); (try clear hi); (try clear ho0)) | ((with_reducible refine gate_dst (N := 3) rfl ?_); (try (refine gate_guard (by rfl) ?_; dsimp only)); refine Kd.R_lit (Kd.int .u8) _ 5 ?hg (N := 3) ?hd (xs := ([33] : List Int)) (inner := [.int .u8 33]) (ok := fun _ => True) (okp := fun _ => True) ?hr ?hp (fun _ hk => hk) trivial (Below.refl _ _) (Nat.le_refl _) (by simp) ?_; (case hd => rfl); (case hg => rfl); (case hr => first | (go_simp; done) | (go_simp; rfl)); (case hp => exact (Reps.one (show Kd.M (Kd.int .u8) _ _ _ 33 [.int .u8 33] from rfl) (Reps.none _ _))); intro v105 w17 ho18 hb hg_ hnew_; clear hg_ hnew_; (first | rw [← Ny104.out] at ho18 | (simp only [Int.reduceToNat] at ho18; rw [← Ny104.out] at ho18)); have n0_ := Aside0.mk (Kd.Q_elder' (by (with_reducible repeat (first | apply Kd.Q_alloc | apply Kd.Q_drewN | apply Kd.Q_drew)); exact HO103.out) (Kd.R_base ho18) hb); have n1_ := Aside0.mk (Kd.R_lower (Kd.R_new' ho18 (Kd.Q_lt (by (with_reducible repeat (first | apply Kd.Q_alloc | apply Kd.Q_drewN | apply Kd.Q_drew)); exact HO103.out))) (below_size (by repeat (first | (with_reducible first | exact HB.out | apply below_alloc | apply pw_below_drewN | apply below_drew1) | exact HB.out)))); have n2_ := Aside0.mk (below_step (by repeat (first | (with_reducible first | exact HB.out | apply below_alloc | apply pw_below_drewN | apply below_drew1) | exact HB.out)) hb); clear HO103; clear HB; have HO103 := n0_; have HO106 := n1_; have HB := n2_; clear n0_ n1_ n2_; clear hb ho18; obtain ⟨Ao19, co19, eo19, _⟩ := Kd.Q_slice HO103.out; subst eo19; obtain ⟨Ao20, co20, eo20⟩ := Kd.R_slice HO106.out; subst eo20) | ((with_reducible refine gate_callee (f := 31) rfl ?_); refine goesL_ (some 4) rfl rfl Tryd.func31 (by kernel_rfl) rfl #[.slice Ao19 t101.length co19, .slice Ao20 y104.length co20] rfl (by (try simp only [List.map_toArray, List.map_cons, List.map_nil]); first | done | rfl | (simp only [List.length_drop, List.length_take]; rfl)) ?_; (with_reducible refine (marlineref01_Equal.calls k _ _ t101 _ _ y104 false _ ?side1 ?side2 ?side3 ?side4 A2.out).mono ?_); (case side1 => repeat (first | exact (Kd.Q_reads' HO103.out).2.2 | (with_reducible refine Kd.C_alloc ?_ _) | (with_reducible refine Kd.C_drewN ?_ _) | (with_reducible refine Kd.C_drew ?_))); (case side2 => exact (Kd.Q_reads' HO103.out).2.1); (case side3 => repeat (first | exact (Kd.R_reads' HO106.out).2.2 | (with_reducible refine Kd.C_alloc ?_ _) | (with_reducible refine Kd.C_drewN ?_ _) | (with_reducible refine Kd.C_drew ?_))); (case side4 => exact (Kd.R_reads' HO106.out).2.1); rintro e w' ⟨rfl, ⟨nd, rfl⟩⟩; refine ⟨_, rfl, ?_⟩))
    go_ret
    exact ⟨by first | rfl | (simp [errW_none, errW_some] <;> rfl) | (simp [*, errW_none, errW_some] <;> rfl), by repeat (first | (with_reducible first | exact HB.out | apply below_alloc | apply pw_below_drewN | apply below_drew1) | exact HB.out)⟩
end Go.Proofs.YtggpejjfgphihaaDoor.B
end

section
namespace Go.Proofs.YtggpejjfgphihaaDoor.Pu
open Go.RowKit Go.Proofs.YtggpejjfgphihaaDoorW.PrintWords Go.Proofs.YtggpejjfgphihaaDoorW.PrintLast Go.Proofs.YtggpejjfgphihaaDoorW.PrintMore
open Go.Proofs.YtggpejjfgphihaaDoor.Given Go.Proofs.YtggpejjfgphihaaDoor.D Go.Proofs.YtggpejjfgphihaaDoor.H Go.Proofs.YtggpejjfgphihaaDoor.B
set_option linter.unusedVariables false
set_option linter.unusedSimpArgs false
theorem speaks10 (k : Nat) : marlinelaw10_speaks.f (k + 10) = some true := by
  unfold marlinelaw10_speaks.f
  have h1 := f_head (k + 7) 33 (by decide) false false true true 0 0 0
  have h2 := f_head (k + 7) 33 (by decide) false false false false 0 0 0
  have q1 := r_Equal (k + 10) [33] [33] (by decide) (by simp)
  have q2 := r_Equal (k + 10) [255, 3, 0, 33] [255, 3, 0, 33] (by decide) (by simp)
  rw [show (33 : Int) = ((33 : Nat) : Int) from rfl, h1, Option.bind_some, show headN true true 33 = [33] by decide]
  rw [show ([((33 : Nat) : Int)] : List Int) = ofN [33] from rfl, q1, Option.bind_some, if_pos (by decide), h2, Option.bind_some, show headN false false 33 = [255, 3, 0, 33] by decide]
  rw [show (255 :: 3 :: 0 :: ofN [33] : List Int) = ofN [255, 3, 0, 33] from rfl, q2]
  rfl
end Go.Proofs.YtggpejjfgphihaaDoor.Pu
end

section
namespace Go.Proofs.YtggpejjfgphihaaDoor.T
open Go.Proofs.YtggpejjfgphihaaDoor.Given Go.Proofs.YtggpejjfgphihaaDoor.D Go.Proofs.YtggpejjfgphihaaDoor.H Go.Proofs.YtggpejjfgphihaaDoor.B Go.RowKit Go.Proofs.YtggpejjfgphihaaDoorW.PrintWords Go.Proofs.YtggpejjfgphihaaDoorW.PrintLast Go.Proofs.YtggpejjfgphihaaDoorW.PrintMore
attribute [local go_sem] max2_int min2_int max_two min_two max_three min_three max_four min_four
set_option linter.unusedVariables false
set_option linter.unusedSimpArgs false
def errW : Option Int → Value
  | none => .nilIface
  | some c => .iface 0 (.int .i64 c)
theorem errW_none : errW none = .nilIface := rfl
theorem errW_some (c : Int) : errW (some c) = .iface 0 (.int .i64 c) := rfl
def rd_L1 (xs : List (List Int)) (i : Int) : (List Int) := xs.getD i.toNat ([] : List Int)
theorem at_L1 {w : World} {A : Option Addr} {n : Nat} {xs : List (List Int)} (h : Kd.C (Kd.slice 5 (Kd.int .u8)) w A n xs) (i : Int) (h0 : 0 ≤ i) (h1 : i < n) : ∃ ad A0 c0, A = some ad ∧ w.cell? (ad.add i.toNat) = some (.slice A0 (rd_L1 xs i).length c0) ∧ (rd_L1 xs i).length ≤ c0 ∧ (Kd.int .u8).C w A0 (rd_L1 xs i).length (rd_L1 xs i) := by
  obtain ⟨ad, c, e, _, hK, hc0⟩ := Kd.C_get h ([] : List Int) i h0 h1
  have hc : ∀ j u, c[j]? = some u → w.cell? (ad.add (i.toNat * 1 + j)) = some u := hc0
  obtain ⟨A0, c0, rfl, l0, g0⟩ := hK
  exact ⟨ad, A0, c0, e, by have hq := hc 0 _ rfl; rwa [Nat.mul_one, Nat.add_zero] at hq, l0, g0⟩
end Go.Proofs.YtggpejjfgphihaaDoor.T
end

section
namespace Go.Proofs.YtggpejjfgphihaaDoor.Given
open Go.RowKit Go.Proofs.YtggpejjfgphihaaDoorW.PrintWords Go.Proofs.YtggpejjfgphihaaDoorW.PrintLast Go.Proofs.YtggpejjfgphihaaDoorW.PrintMore
open Go.Proofs.YtggpejjfgphihaaDoor.H Go.Proofs.YtggpejjfgphihaaDoor.Pu
set_option linter.unusedVariables false
set_option linter.unusedSimpArgs false
def qk : Kd (List Int) where
  sz := 1
  E := [5]
  K := fun w xs cs => ∃ A c, cs = [.slice A xs.length c] ∧ xs.length ≤ c ∧ (Kd.int .u8).C w A xs.length xs
  M := fun w base ok xs cs => ∃ v, cs = [v] ∧ (Kd.int .u8).Q 5 w base ok v xs
  K_len := by
    rintro w x cs ⟨A, c, rfl, _⟩
    rfl
  K_one := by
    rintro w x cs ⟨A, c, rfl, _⟩ u hu
    rw [List.mem_singleton.1 hu]
    rfl
  K_below := by
    rintro w w1 x cs hb ⟨A, c, rfl, hl, hr⟩
    exact ⟨A, c, rfl, hl, Kd.C_below hr hb⟩
  K_of_M := by
    rintro w base ok x cs ⟨v, rfl, h⟩
    obtain ⟨A, c, rfl, hl, hr⟩ := Kd.Q_reads h
    exact ⟨A, c, rfl, hl, hr⟩
  M_mono := by
    rintro w base ok ok' x cs hok ⟨v, rfl, h⟩
    exact ⟨v, rfl, Kd.Q_mono h hok⟩
  M_bound := by
    rintro w base ok x cs ⟨v, rfl, h⟩
    exact ⟨v, rfl, Kd.Q_bound h⟩
  M_move := by
    rintro w w1 base ok x cs hm ⟨v, rfl, h⟩
    exact ⟨v, rfl, Kd.Q_move h hm⟩
  M_lower := by
    rintro w base base' ok x cs hb ⟨v, rfl, h⟩
    exact ⟨v, rfl, Kd.Q_lower h hb⟩
def cand (ad sh : Bool) (P : Nat) : List Nat := (if ad = true then [255, 3] else []) ++ numN P sh
def gd (a f ad sh : Bool) (P : Nat) : Bool := (ad || a) && (!(sh && decide (P < 256)) || f)
theorem right_parts {p : Nat} (h : right p = true) : p % 2 = 1 ∧ p / 256 % 2 = 0 ∧ p ≠ 255 := by simpa [right, and_assoc] using h
theorem getN_cand (P : Nat) (hr : right P = true) (hP : P < 65536) (sh f : Bool) : getN (numN P sh) f = if (!(sh && decide (P < 256)) || f) = true then (P, (numN P sh).length, 0) else (0, 0, 7) := by
  obtain ⟨h1, h2, h3⟩ := right_parts hr
  unfold numN
  by_cases h : sh = true ∧ P < 256
  · have e : P % 256 = P := Nat.mod_eq_of_lt h.2
    rw [if_pos h, e]
    simp [getN, h1, hr, h.1, h.2]
  · have e : 256 * (P / 256) + P % 256 = P := by omega
    have hb : (!(sh && decide (P < 256)) || f) = true := by
      cases sh
      · rfl
      · have : ¬ P < 256 := fun hh => h ⟨rfl, hh⟩
        simp [this]
    rw [if_neg h, if_pos hb]
    simp [getN, h2, e, hr]
theorem begins_cand (P : Nat) (hr : right P = true) (hP : P < 65536) (ad sh : Bool) : begins (cand ad sh P) = ad := by
  obtain ⟨h1, h2, h3⟩ := right_parts hr
  unfold cand
  cases ad
  · unfold numN
    by_cases h : sh = true ∧ P < 256
    · simp [h, begins]
    · have : P / 256 ≠ 255 := by omega
      simp [h, begins, this]
  · simp [begins]
theorem getHead_cand (P : Nat) (hr : right P = true) (hP : P < 65536) (a f ad sh : Bool) : getHead a f (cand ad sh P) = if gd a f ad sh P = true then (P, (cand ad sh P).length, 0) else (0, 0, 7) := by
  unfold getHead gd
  rw [begins_cand P hr hP ad sh]
  cases ad
  · cases a
    · simp
    · have hc : cand false sh P = numN P sh := by simp [cand]
      rw [hc]
      simp only [Bool.false_or, Bool.true_and, and_false, Bool.true_eq_false, if_false, Bool.false_eq_true, getN_cand P hr hP sh f]
      split <;> simp
  · have hd : (cand true sh P).drop 2 = numN P sh := by simp [cand]
    have hl : (cand true sh P).length = 2 + (numN P sh).length := by simp [cand]; omega
    simp only [if_true, hd, Bool.true_or, Bool.true_and, Bool.true_eq_false, false_and, if_false, getN_cand P hr hP sh f, hl]
    split <;> simp
theorem cand_lt (ad sh : Bool) (P : Nat) (hP : P < 65536) : ∀ x ∈ cand ad sh P, x < 256 := by
  intro x hx
  rcases List.mem_append.1 hx with hx | hx
  · cases ad
    · simp at hx
    · simp at hx; omega
  · exact numN_lt P sh hP x hx
theorem cand_len (ad sh : Bool) (P : Nat) : 1 ≤ (cand ad sh P).length ∧ (cand ad sh P).length ≤ 4 := by
  have := numN_len P sh
  cases ad <;> simp [cand] <;> omega
def stepR (a f : Bool) (P : Nat) (ad sh : Bool) (rows : List (List Int)) : List (List Int) := if gd a f ad sh P = true then rows ++ [ofN (cand ad sh P)] else rows
def rowsAt (a f : Bool) (P : Nat) : Nat → List (List Int)
  | 0 => []
  | n + 1 => stepR a f P (decide (2 ≤ n)) (decide (n % 2 = 1)) (rowsAt a f P n)
theorem rowsAt_len (a f : Bool) (P : Nat) (n : Nat) : (rowsAt a f P n).length ≤ n := by
  induction n with
  | zero => simp [rowsAt]
  | succ n ih =>
    unfold rowsAt stepR
    split
    · rw [List.length_append, List.length_singleton]; omega
    · omega
theorem app_qk {ops : Array Oper} {rest : List Oper} {o : Oper} {a : Act} {Q : Exit → Act → World → Prop} {w0 W : World} (B : Nat) (hgd : o.guard = none) (s x : Operand) (v : Value) (rows : List (List Int)) (p : List Int) (u : Value)
    (ho : o.op = .call { callee := .builtin .append, args := #[s, x], argTypes := #[47, 47] }) (hs : a.eval s = v) (hx : a.eval x = .slice (some ⟨W.heap.size, 0, none⟩) 1 1)
    (hq : (Kd.int .u8).Q 5 W B (fun k => some k ≠ v.ownBlock) u p) (HO : qk.R 35 W B (fun _ => True) v rows) (HB : Below B w0 W) (hB : B ≤ W.heap.size) (hl : rows.length < 100)
    (h : ∀ v1 w1, qk.R 35 w1 B (fun _ => True) v1 (rows ++ [p]) → Below B w0 w1 → W.grownBy w1 v.ownBlock → wpList Tryd.prog ops Q rest (a.put o.dst v1) w1) :
    wpList Tryd.prog ops Q (o :: rest) a (W.alloc (.cells #[u] 35)) := by
  refine Kd.R_append qk (w0 := w0) B hgd s x 47 35 (.slice none 0 0) 24 ho Tryd.underlying47 info35 rfl (by decide) (by decide) v rows p [u] (fun _ => True) (fun k => some k ≠ v.ownBlock) hs hx ⟨u, rfl, hq⟩ (fun k hk => ⟨trivial, hk⟩) (fun _ _ => trivial) HO HB hB (by omega) ?_
  intro v1 w1 h1 h2 h3 _
  exact h v1 w1 h1 h2 h3
structure Cf (w : World) (b : Nat) (a0 a1 a f : Bool) (a4 a5 a6 : Int) : Prop where
  c0 : w.cell? ⟨b, 0, none⟩ = some (.bool a0)
  c1 : w.cell? ⟨b, 1, none⟩ = some (.bool a1)
  c2 : w.cell? ⟨b, 2, none⟩ = some (.bool a)
  c3 : w.cell? ⟨b, 3, none⟩ = some (.bool f)
  c4 : w.cell? ⟨b, 4, none⟩ = some (.int .u32 a4)
  c5 : w.cell? ⟨b, 5, none⟩ = some (.int .u32 a5)
  c6 : w.cell? ⟨b, 6, none⟩ = some (.int .i64 a6)
theorem Cf.below {w w1 : World} {b : Nat} {a0 a1 a f : Bool} {a4 a5 a6 : Int} (h : Cf w b a0 a1 a f a4 a5 a6) (hb : Below w.heap.size w w1) : Cf w1 b a0 a1 a f a4 a5 a6 :=
  ⟨pw_cell_below hb h.c0, pw_cell_below hb h.c1, pw_cell_below hb h.c2, pw_cell_below hb h.c3, pw_cell_below hb h.c4, pw_cell_below hb h.c5, pw_cell_below hb h.c6⟩
structure St (w2 ws : World) (a f : Bool) (P n g : Nat) (v5 : Value) : Prop where
  own : qk.R 35 ws w2.heap.size (fun _ => True) v5 (rowsAt a f P n)
  below : Below w2.heap.size w2 ws
  blk : ws.heap[g]? = some (.cells #[.bool false, .bool true] 4 (0, 0))
theorem St.lt {w2 ws : World} {a f : Bool} {P n g : Nat} {v5 : Value} (h : St w2 ws a f P n g v5) : g < ws.heap.size := blk_lt h.blk
theorem St.step {w2 ws w' : World} {a f : Bool} {P n g : Nat} {v5 : Value} (h : St w2 ws a f P n g v5) (hb : Below ws.heap.size ws w') : St w2 w' a f P n g v5 :=
  ⟨Kd.R_below h.own hb, below_step h.below hb, (hb.block g h.lt).trans h.blk⟩
theorem St.skip {w2 ws : World} {a f : Bool} {P n g : Nat} {v5 : Value} (h : St w2 ws a f P n g v5) (ad sh : Bool) (h1 : decide (2 ≤ n) = ad) (h2 : decide (n % 2 = 1) = sh) (hg : ¬ gd a f ad sh P = true) : St w2 ws a f P (n + 1) g v5 := by
  refine ⟨?_, h.below, h.blk⟩
  have : rowsAt a f P (n + 1) = rowsAt a f P n := by rw [rowsAt, stepR, h1, h2, if_neg hg]
  rw [this]; exact h.own
theorem St.app {w2 ws w' : World} {a f : Bool} {P n g : Nat} {v5 v' : Value} (h : St w2 ws a f P n g v5) (ad sh : Bool) (h1 : decide (2 ≤ n) = ad) (h2 : decide (n % 2 = 1) = sh) (hg : gd a f ad sh P = true)
    (ho : qk.R 35 w' w2.heap.size (fun _ => True) v' (rowsAt a f P n ++ [ofN (cand ad sh P)])) (hb : Below w2.heap.size w2 w') (hgr : ws.grownBy w' v5.ownBlock) : St w2 w' a f P (n + 1) g v' := by
  have e : rowsAt a f P (n + 1) = rowsAt a f P n ++ [ofN (cand ad sh P)] := by rw [rowsAt, stepR, h1, h2, if_pos hg]
  exact ⟨by rw [e]; exact ho, hb, blk_grown h.blk hgr (Kd.R_ne h.own h.blk (by decide))⟩
set_option maxHeartbeats 16000000 in
set_option maxRecDepth 100000 in
theorem all_walk (a0 a1 a f : Bool) (a4 a5 a6 : Int) (P : Nat) (hP : P < 65536) (hr : right P = true) (w : World) (hgH : GH w) (Post : World → Ending → World → Prop)
    (hpost : ∀ (W : World) (v5 : Value) , Below w.heap.size w W → qk.R 35 W w.heap.size (fun _ => True) v5 (rowsAt a f P 4) → (Calls Tryd.prog 62 #[v5, .func (.func 63) #[] #[]] W fun e W' => e = .returned (.tuple #[]) ∧ Calls Tryd.prog 66 #[v5, .func (.func 67) #[] #[]] W' fun e W2 => ∃ r, e = .returned r ∧ Post w e W2)) :
    Calls Tryd.prog 35 #[.agg #[.bool a0, .bool a1, .bool a, .bool f, .int .u32 a4, .int .u32 a5, .int .i64 a6], .int .u16 (P : Int)] w (Post w) := by
  have HP := Aside0.mk hP
  have HR := Aside0.mk hr
  have HG := Aside0.mk hgH
  have HPOST := Aside0.mk hpost
  clear hP hr hgH hpost
  go_enter Tryd.func35, Tryd.ntmps35
  go_upto_region 1 with (fail)
  obtain ⟨w1, hw1⟩ : ∃ W, W = w.alloc (.cells #[.bool a0, .bool a1, .bool a, .bool f, .int .u32 a4, .int .u32 a5, .int .i64 a6] 26) := ⟨_, rfl⟩
  have hb1 : Below w.heap.size w w1 := by rw [hw1]; exact below_alloc (Below.refl _ _) _
  have HC1 := Aside0.mk (show Cf w1 w.heap.size a0 a1 a f a4 a5 a6 from ⟨by rw [hw1]; exact cell_of_row _ _ 0 _ 26 (0, 0) (heap_alloc_new w _), by rw [hw1]; exact cell_of_row _ _ 1 _ 26 (0, 0) (heap_alloc_new w _), by rw [hw1]; exact cell_of_row _ _ 2 _ 26 (0, 0) (heap_alloc_new w _), by rw [hw1]; exact cell_of_row _ _ 3 _ 26 (0, 0) (heap_alloc_new w _), by rw [hw1]; exact cell_of_row _ _ 4 _ 26 (0, 0) (heap_alloc_new w _), by rw [hw1]; exact cell_of_row _ _ 5 _ 26 (0, 0) (heap_alloc_new w _), by rw [hw1]; exact cell_of_row _ _ 6 _ 26 (0, 0) (heap_alloc_new w _)⟩)
  rw [← hw1]
  have HB1 := Aside0.mk hb1
  clear hb1 hw1
  go_wp2_with fail
  obtain ⟨w2, hw2⟩ : ∃ W, W = w1.alloc (.cells #[.bool false, .bool true] 4) := ⟨_, rfl⟩
  have hb2 : Below w1.heap.size w1 w2 := by rw [hw2]; exact below_alloc (Below.refl _ _) _
  have harr : ∀ j, w2.cell? ⟨w1.heap.size, j, none⟩ = (#[.bool false, .bool true] : Array Value)[j]? := by intro j; rw [hw2]; exact cell_of_row _ _ j _ 4 (0, 0) (heap_alloc_new w1 _)
  rw [← hw2]
  have HARR := Aside0.mk harr
  have HC2 := Aside0.mk (HC1.out.below hb2)
  have HB2 := Aside0.mk (below_step HB1.out hb2)
  clear hw2 hb2 harr
  go_loopw [5, 17] (fun v5 v17 wr => (v17 = .int .i64 0 ∧ Aside0 (qk.R 35 wr w2.heap.size (fun _ => True) v5 (rowsAt a f P 0) ∧ Below w2.heap.size w2 wr)) ∨ (v17 = .int .i64 1 ∧ Aside0 (qk.R 35 wr w2.heap.size (fun _ => True) v5 (rowsAt a f P 2) ∧ Below w2.heap.size w2 wr)) ∨ (v17 = .int .i64 2 ∧ Aside0 (qk.R 35 wr w2.heap.size (fun _ => True) v5 (rowsAt a f P 4) ∧ Below w2.heap.size w2 wr))) (fun _ v _ => 2 - (intOf v).toNat)
  case atStart => exact Or.inl ⟨rfl, ⟨Kd.R_nil _ _ _ _ _, Below.refl _ _⟩⟩
  case round =>
    rcases hrel with ⟨rfl, HO⟩ | ⟨rfl, HO⟩ | ⟨rfl, HO⟩
    · obtain ⟨wo, rfl⟩ : ∃ wo : World, wo = wr := ⟨_, rfl⟩
      have bi : wo.cell? ⟨w1.heap.size, 0, none⟩ = some (.bool false) := (pw_cell_below HO.out.2 (HARR.out 0))
      go_wp2_with fail
      obtain ⟨w3, hw3⟩ : ∃ W, W = wo.alloc (.cells #[.bool false, .bool true] 4) := ⟨_, rfl⟩
      have hb3 : Below wo.heap.size wo w3 := by rw [hw3]; exact below_alloc (Below.refl _ _) _
      have hblk : w3.heap[wo.heap.size]? = some (.cells #[.bool false, .bool true] 4 (0, 0)) := by rw [hw3]; exact heap_alloc_new wo _
      rw [← hw3]
      have HS0 := Aside0.mk (show St w2 w3 a f P 0 wo.heap.size u5 from ⟨Kd.R_below HO.out.1 hb3, below_step HO.out.2 hb3, hblk⟩)
      clear hw3 hb3 hblk bi
      go_loopw [5, 23] (fun v5 v23 wr => (v23 = .int .i64 0 ∧ Aside0 (St w2 wr a f P 0 wo.heap.size v5)) ∨ (v23 = .int .i64 1 ∧ Aside0 (St w2 wr a f P 1 wo.heap.size v5)) ∨ (v23 = .int .i64 2 ∧ Aside0 (St w2 wr a f P 2 wo.heap.size v5))) (fun _ v _ => 2 - (intOf v).toNat)
      case atStart => exact Or.inl ⟨rfl, HS0⟩
      case round =>
        clear HS0 HO
        rcases hrel with ⟨rfl, HS⟩ | ⟨rfl, HS⟩ | ⟨rfl, HS⟩
        · have bj : wr.cell? ⟨wo.heap.size, 0, none⟩ = some (.bool false) := (blk_cell HS.out.blk 0).trans rfl
          have HPUT := Aside0.mk (f_Put 0 P false HP.out)
          go_wp2_with fail
          refine (proto_Put.calls 3 (P : Int) false (ofN (numN P false)) _ HPUT.out).mono ?_
          rintro e x3 ⟨v, rfl, hq, hb3⟩
          have hnl := numN_len P false
          obtain ⟨gq, oq, cq, rfl, hgq1, hgq2, _⟩ := Kd.Q_form hq (by rw [ofN_length]; omega)
          have HS3 := Aside0.mk (HS.out.step hb3)
          have HLT := Aside0.mk (Kd.R_lt HS.out.own)
          have hle2 : w2.heap.size ≤ wr.heap.size := HS.out.below.size
          have HLE2 := Aside0.mk hle2
          have HQ3 := Aside0.mk (Kd.Q_lower (Kd.Q_new' hq HLT.out) hle2)
          clear hq hgq1 hgq2 hle2 bj hnl HPUT
          have hcl : (cand false false P) = numN P false := by simp [cand]
          have HCL := Aside0.mk hcl
          clear hcl hb3
          obtain ⟨c0, c1, c2, c3, c4, c5, c6⟩ := (HC2.out.below HS3.out.below)
          by_cases hgd : gd a f false false P = true
          case pos =>
            have hfg : head_Get.f 3 a0 a1 a f a4 a5 a6 (ofN (numN P false)) = some ((P : Int), ((ofN (numN P false)).length : Int), 0) := by
              have h := f_getHead 0 a0 a1 a f a4 a5 a6 (cand false false P) (cand_lt false false P HP.out) (by have := cand_len false false P; omega)
              rw [getHead_cand P HR.out HP.out a f false false, if_pos hgd, HCL.out] at h
              rw [h, ofN_length]; rfl
            have HFG := Aside0.mk hfg
            have HGD := Aside0.mk hgd
            clear hfg hgd
            go_wp2_with fail
            refine (head_Get.calls 3 a0 a1 a f a4 a5 a6 (some ⟨gq, oq, none⟩) cq (ofN (numN P false)) _ _ _ _ (Kd.Q_reads' HQ3.out).2.2 (Kd.Q_reads' HQ3.out).2.1 (GH_below HG.out (below_then HB2.out HB2.out.size HS3.out.below)) HFG.out).mono ?_
            rintro e x6 ⟨rfl, hb6⟩
            have HS6 := Aside0.mk (HS3.out.step hb6)
            have HQ6 := Aside0.mk (Kd.Q_below HQ3.out hb6)
            clear hb6 c0 c1 c2 c3 c4 c5 c6
            have HQ7 := Aside0.mk (Kd.Q_mono HQ6.out (fun k hk => hk.2))
            go_wp2_with (first
                  | ((with_reducible refine gate_builtin (b := .append) (xs := #[.tmp 55, .tmp 57]) rfl ?_)
                     (try (refine gate_guard (by rfl) ?_; dsimp only))
                     at_builtin
                     refine app_qk (w0 := w2) w2.heap.size rfl (.tmp 55) (.tmp 57) u5 (rowsAt a f P 0) _ _ rfl rfl rfl HQ7.out HS6.out.own HS6.out.below HS6.out.below.size (by have := rowsAt_len a f P 0; omega) ?_
                     intro v7 x7 ho7 hb7 hg7
                     have HO7 := Aside0.mk ho7
                     have HB7 := Aside0.mk hb7
                     have HG7 := Aside0.mk hg7
                     clear ho7 hb7 hg7))
            go_roundw
            case rel => exact Or.inr (Or.inl ⟨rfl, ⟨HS6.out.app false false (by decide) (by decide) HGD.out (by rw [HCL.out]; exact HO7.out) HB7.out HG7.out⟩⟩)
            case measure => simp [intOf]
          case neg =>
            have hfg : head_Get.f 3 a0 a1 a f a4 a5 a6 (ofN (numN P false)) = some (0, 0, 7) := by
              have h := f_getHead 0 a0 a1 a f a4 a5 a6 (cand false false P) (cand_lt false false P HP.out) (by have := cand_len false false P; omega)
              rw [getHead_cand P HR.out HP.out a f false false, if_neg hgd, HCL.out] at h
              exact h
            have HFG := Aside0.mk hfg
            have HGD := Aside0.mk hgd
            clear hfg hgd
            go_wp2_with fail
            refine (head_Get.calls 3 a0 a1 a f a4 a5 a6 (some ⟨gq, oq, none⟩) cq (ofN (numN P false)) _ _ _ _ (Kd.Q_reads' HQ3.out).2.2 (Kd.Q_reads' HQ3.out).2.1 (GH_below HG.out (below_then HB2.out HB2.out.size HS3.out.below)) HFG.out).mono ?_
            rintro e x6 ⟨rfl, hb6⟩
            have HS6 := Aside0.mk (HS3.out.step hb6)
            have HQ6 := Aside0.mk (Kd.Q_below HQ3.out hb6)
            clear hb6 c0 c1 c2 c3 c4 c5 c6
            go_wp2_with fail
            go_roundw
            case rel => exact Or.inr (Or.inl ⟨rfl, ⟨HS6.out.skip false false (by decide) (by decide) HGD.out⟩⟩)
            case measure => simp [intOf]
        · have bj : wr.cell? ⟨wo.heap.size, 1, none⟩ = some (.bool true) := (blk_cell HS.out.blk 1).trans rfl
          have HPUT := Aside0.mk (f_Put 0 P true HP.out)
          go_wp2_with fail
          refine (proto_Put.calls 3 (P : Int) true (ofN (numN P true)) _ HPUT.out).mono ?_
          rintro e x3 ⟨v, rfl, hq, hb3⟩
          have hnl := numN_len P true
          obtain ⟨gq, oq, cq, rfl, hgq1, hgq2, _⟩ := Kd.Q_form hq (by rw [ofN_length]; omega)
          have HS3 := Aside0.mk (HS.out.step hb3)
          have HLT := Aside0.mk (Kd.R_lt HS.out.own)
          have hle2 : w2.heap.size ≤ wr.heap.size := HS.out.below.size
          have HLE2 := Aside0.mk hle2
          have HQ3 := Aside0.mk (Kd.Q_lower (Kd.Q_new' hq HLT.out) hle2)
          clear hq hgq1 hgq2 hle2 bj hnl HPUT
          have hcl : (cand false true P) = numN P true := by simp [cand]
          have HCL := Aside0.mk hcl
          clear hcl hb3
          obtain ⟨c0, c1, c2, c3, c4, c5, c6⟩ := (HC2.out.below HS3.out.below)
          by_cases hgd : gd a f false true P = true
          case pos =>
            have hfg : head_Get.f 3 a0 a1 a f a4 a5 a6 (ofN (numN P true)) = some ((P : Int), ((ofN (numN P true)).length : Int), 0) := by
              have h := f_getHead 0 a0 a1 a f a4 a5 a6 (cand false true P) (cand_lt false true P HP.out) (by have := cand_len false true P; omega)
              rw [getHead_cand P HR.out HP.out a f false true, if_pos hgd, HCL.out] at h
              rw [h, ofN_length]; rfl
            have HFG := Aside0.mk hfg
            have HGD := Aside0.mk hgd
            clear hfg hgd
            go_wp2_with fail
            refine (head_Get.calls 3 a0 a1 a f a4 a5 a6 (some ⟨gq, oq, none⟩) cq (ofN (numN P true)) _ _ _ _ (Kd.Q_reads' HQ3.out).2.2 (Kd.Q_reads' HQ3.out).2.1 (GH_below HG.out (below_then HB2.out HB2.out.size HS3.out.below)) HFG.out).mono ?_
            rintro e x6 ⟨rfl, hb6⟩
            have HS6 := Aside0.mk (HS3.out.step hb6)
            have HQ6 := Aside0.mk (Kd.Q_below HQ3.out hb6)
            clear hb6 c0 c1 c2 c3 c4 c5 c6
            have HQ7 := Aside0.mk (Kd.Q_mono HQ6.out (fun k hk => hk.2))
            go_wp2_with (first
                  | ((with_reducible refine gate_builtin (b := .append) (xs := #[.tmp 55, .tmp 57]) rfl ?_)
                     (try (refine gate_guard (by rfl) ?_; dsimp only))
                     at_builtin
                     refine app_qk (w0 := w2) w2.heap.size rfl (.tmp 55) (.tmp 57) u5 (rowsAt a f P 1) _ _ rfl rfl rfl HQ7.out HS6.out.own HS6.out.below HS6.out.below.size (by have := rowsAt_len a f P 1; omega) ?_
                     intro v7 x7 ho7 hb7 hg7
                     have HO7 := Aside0.mk ho7
                     have HB7 := Aside0.mk hb7
                     have HG7 := Aside0.mk hg7
                     clear ho7 hb7 hg7))
            go_roundw
            case rel => exact Or.inr (Or.inr ⟨rfl, ⟨HS6.out.app false true (by decide) (by decide) HGD.out (by rw [HCL.out]; exact HO7.out) HB7.out HG7.out⟩⟩)
            case measure => simp [intOf]
          case neg =>
            have hfg : head_Get.f 3 a0 a1 a f a4 a5 a6 (ofN (numN P true)) = some (0, 0, 7) := by
              have h := f_getHead 0 a0 a1 a f a4 a5 a6 (cand false true P) (cand_lt false true P HP.out) (by have := cand_len false true P; omega)
              rw [getHead_cand P HR.out HP.out a f false true, if_neg hgd, HCL.out] at h
              exact h
            have HFG := Aside0.mk hfg
            have HGD := Aside0.mk hgd
            clear hfg hgd
            go_wp2_with fail
            refine (head_Get.calls 3 a0 a1 a f a4 a5 a6 (some ⟨gq, oq, none⟩) cq (ofN (numN P true)) _ _ _ _ (Kd.Q_reads' HQ3.out).2.2 (Kd.Q_reads' HQ3.out).2.1 (GH_below HG.out (below_then HB2.out HB2.out.size HS3.out.below)) HFG.out).mono ?_
            rintro e x6 ⟨rfl, hb6⟩
            have HS6 := Aside0.mk (HS3.out.step hb6)
            have HQ6 := Aside0.mk (Kd.Q_below HQ3.out hb6)
            clear hb6 c0 c1 c2 c3 c4 c5 c6
            go_wp2_with fail
            go_roundw
            case rel => exact Or.inr (Or.inr ⟨rfl, ⟨HS6.out.skip false true (by decide) (by decide) HGD.out⟩⟩)
            case measure => simp [intOf]
        · go_wp2_with fail
          go_roundw
          case rel => exact Or.inr (Or.inl ⟨rfl, ⟨HS.out.own, HS.out.below⟩⟩)
          case measure => simp [intOf]
    · obtain ⟨wo, rfl⟩ : ∃ wo : World, wo = wr := ⟨_, rfl⟩
      have bi : wo.cell? ⟨w1.heap.size, 1, none⟩ = some (.bool true) := (pw_cell_below HO.out.2 (HARR.out 1))
      go_wp2_with fail
      obtain ⟨w3, hw3⟩ : ∃ W, W = wo.alloc (.cells #[.bool false, .bool true] 4) := ⟨_, rfl⟩
      have hb3 : Below wo.heap.size wo w3 := by rw [hw3]; exact below_alloc (Below.refl _ _) _
      have hblk : w3.heap[wo.heap.size]? = some (.cells #[.bool false, .bool true] 4 (0, 0)) := by rw [hw3]; exact heap_alloc_new wo _
      rw [← hw3]
      have HS0 := Aside0.mk (show St w2 w3 a f P 2 wo.heap.size u5 from ⟨Kd.R_below HO.out.1 hb3, below_step HO.out.2 hb3, hblk⟩)
      clear hw3 hb3 hblk bi
      go_loopw [5, 23] (fun v5 v23 wr => (v23 = .int .i64 0 ∧ Aside0 (St w2 wr a f P 2 wo.heap.size v5)) ∨ (v23 = .int .i64 1 ∧ Aside0 (St w2 wr a f P 3 wo.heap.size v5)) ∨ (v23 = .int .i64 2 ∧ Aside0 (St w2 wr a f P 4 wo.heap.size v5))) (fun _ v _ => 2 - (intOf v).toNat)
      case atStart => exact Or.inl ⟨rfl, HS0⟩
      case round =>
        clear HS0 HO
        rcases hrel with ⟨rfl, HS⟩ | ⟨rfl, HS⟩ | ⟨rfl, HS⟩
        · have bj : wr.cell? ⟨wo.heap.size, 0, none⟩ = some (.bool false) := (blk_cell HS.out.blk 0).trans rfl
          have HPUT := Aside0.mk (f_Put 0 P false HP.out)
          go_wp2_with fail
          refine (proto_Put.calls 3 (P : Int) false (ofN (numN P false)) _ HPUT.out).mono ?_
          rintro e x3 ⟨v, rfl, hq, hb3⟩
          have hnl := numN_len P false
          obtain ⟨gq, oq, cq, rfl, hgq1, hgq2, _⟩ := Kd.Q_form hq (by rw [ofN_length]; omega)
          have HS3 := Aside0.mk (HS.out.step hb3)
          have HLT := Aside0.mk (Kd.R_lt HS.out.own)
          have hle2 : w2.heap.size ≤ wr.heap.size := HS.out.below.size
          have HLE2 := Aside0.mk hle2
          have HQ3 := Aside0.mk (Kd.Q_lower (Kd.Q_new' hq HLT.out) hle2)
          clear hq hgq1 hgq2 hle2 bj hnl HPUT
          obtain ⟨q0, q1⟩ := GH_below HG.out (below_then HB2.out HB2.out.size HS3.out.below)
          have HN3 := Aside0.mk (Kd.Q_reads' HQ3.out).2.2
          have hg := heap_alloc_new x3 (.cells #[.int .u8 0, .int .u8 0] 82)
          have hrow := made_row x3 #[.int .u8 0, .int .u8 0] #[.int .u8 255, .int .u8 3] 82
          have hsz := hi82
          have HLEx := Aside0.mk hb3.size
          clear hb3
          go_upto_region 11 with (first | (with_reducible refine wpList_store_row rfl 82 (.tmp 11) (.tmp 31) rfl x3.heap.size #[.int .u8 255, .int .u8 3] rfl rfl 82 #[.int .u8 0, .int .u8 0] hg hsz rfl (by decide) ?_; rw [hrow]))
          clear hg hrow hsz q0 q1
          have hcut := fun W => full_cut2 ⟨x3.heap.size, 0, none⟩ W
          have HF := Aside0.mk (full_at x3)
          have hb4 := below_alloc (Below.refl x3.heap.size x3) (.cells #[.int .u8 255, .int .u8 3] 82)
          obtain ⟨adr, had, hnews⟩ := news_at (Kd.C_below HN3.out hb4) (by rw [ofN_length]; have := numN_len P false; omega)
          obtain rfl := Option.some.inj had
          have HNW := Aside0.mk hnews
          have HS4 := Aside0.mk (HS3.out.step hb4)
          have HB4 := Aside0.mk (below_alloc (Below.refl x3.heap.size x3) (.cells #[.int .u8 255, .int .u8 3] 82))
          have HLT4 := Aside0.mk (show ∀ k, u5.ownBlock = some k → k < (x3.alloc (.cells #[.int .u8 255, .int .u8 3] 82)).heap.size from fun k hk => Nat.lt_of_lt_of_le (HLT.out k hk) (Nat.le_trans HLEx.out HB4.out.size))
          clear hnews had hb4
          generalize x3.alloc (.cells #[.int .u8 255, .int .u8 3] 82) = x4 at HF HNW HS4 HB4 HLT4 ⊢
          obtain ⟨i0, hi0, hz0, hsz0, hby0⟩ := info_parts info5
          go_upto_region 12 with (first
                | ((with_reducible refine gate_builtin (b := .append) (xs := #[.tmp 32, .tmp 33]) rfl ?_)
                   (try (refine gate_guard (by rfl) ?_; dsimp only))
                   at_builtin
                   refine wpList_append_grows _ rfl (.tmp 32) (.tmp 33) 35 rfl 5 i0 (.int .u8 0) 1 1 Tryd.underlying35 hi0 hz0 hsz0 hby0 rfl (by decide) (some ⟨x3.heap.size, 0, none⟩) 2 2 [.int .u8 255, .int .u8 3] rfl (fun h => by cases h) rfl (fun b hb => by cases hb; exact HF.out) ⟨gq, oq, none⟩ (ofN (numN P false)).length cq (encs (Value.int .u8) (ofN (numN P false))) rfl (by rw [encs_length, Nat.mul_one]) HNW.out (fun u hu => by obtain ⟨x, _, rfl⟩ := List.mem_map.1 hu; rfl) (by rw [ofN_length]; have := numN_len P false; omega) (by rw [ofN_length]; have := numN_len P false; simp only [maxLen]; omega) (by rw [ofN_length]; have := numN_len P false; omega) ?_
                   intro v' x5 hown hgr
                   have HOW := Aside0.mk hown
                   have HGR := Aside0.mk hgr
                   clear hown hgr))
          have hq5 : (Kd.int .u8).Q 5 x5 x4.heap.size (fun _ => True) v' (ofN (cand true false P)) := by
            have e : ofN (cand true false P) = [255, 3] ++ ofN (numN P false) := by simp [cand, ofN]
            rw [e]
            exact Kd.Q_of_R (Kd.R_of_own (enc := Value.int .u8) (xs := [255, 3] ++ ofN (numN P false)) (by have h_ := HOW.out; rw [show ([255, 3] ++ ofN (numN P false) : List Int).length = 2 + (ofN (numN P false)).length by rw [List.length_append]; rfl]; exact h_) (fun _ _ => trivial))
          have hb5 : Below x4.heap.size x4 x5 := (Below.refl _ _).grown HGR.out (Nat.le_refl _) (fun k hk => by cases hk)
          have HS5 := Aside0.mk (HS4.out.step hb5)
          have hle4 : w2.heap.size ≤ x4.heap.size := HS4.out.below.size
          have HQ5 := Aside0.mk (Kd.Q_lower (Kd.Q_new' hq5 HLT4.out) hle4)
          obtain ⟨A5, c5_, rfl, hcc, hqc⟩ := Kd.Q_reads HQ5.out
          clear hq5 hb5 hle4 hcc hqc hcut i0 hi0 hz0 hsz0 hby0
          obtain ⟨c0, c1, c2, c3, c4, c5, c6⟩ := (HC2.out.below HS5.out.below)
          by_cases hgd : gd a f true false P = true
          case pos =>
            have hfg : head_Get.f 3 a0 a1 a f a4 a5 a6 (ofN (cand true false P)) = some ((P : Int), ((ofN (cand true false P)).length : Int), 0) := by
              have h := f_getHead 0 a0 a1 a f a4 a5 a6 (cand true false P) (cand_lt true false P HP.out) (by have := cand_len true false P; omega)
              rw [getHead_cand P HR.out HP.out a f true false, if_pos hgd] at h
              rw [h, ofN_length]; rfl
            have HFG := Aside0.mk hfg
            have HGD := Aside0.mk hgd
            clear hfg hgd
            go_wp2_with fail
            refine (head_Get.calls 3 a0 a1 a f a4 a5 a6 A5 c5_ (ofN (cand true false P)) _ _ _ _ (Kd.Q_reads' HQ5.out).2.2 (Kd.Q_reads' HQ5.out).2.1 (GH_below HG.out (below_then HB2.out HB2.out.size HS5.out.below)) HFG.out).mono ?_
            rintro e x6 ⟨rfl, hb6⟩
            have HS6 := Aside0.mk (HS5.out.step hb6)
            have HQ6 := Aside0.mk (Kd.Q_below HQ5.out hb6)
            clear hb6 c0 c1 c2 c3 c4 c5 c6
            have HQ7 := Aside0.mk (Kd.Q_mono HQ6.out (fun k hk => hk.2))
            go_wp2_with (first
                  | ((with_reducible refine gate_builtin (b := .append) (xs := #[.tmp 55, .tmp 57]) rfl ?_)
                     (try (refine gate_guard (by rfl) ?_; dsimp only))
                     at_builtin
                     refine app_qk (w0 := w2) w2.heap.size rfl (.tmp 55) (.tmp 57) u5 (rowsAt a f P 2) _ _ rfl rfl rfl HQ7.out HS6.out.own HS6.out.below HS6.out.below.size (by have := rowsAt_len a f P 2; omega) ?_
                     intro v7 x7 ho7 hb7 hg7
                     have HO7 := Aside0.mk ho7
                     have HB7 := Aside0.mk hb7
                     have HG7 := Aside0.mk hg7
                     clear ho7 hb7 hg7))
            go_roundw
            case rel => exact Or.inr (Or.inl ⟨rfl, ⟨HS6.out.app true false (by decide) (by decide) HGD.out HO7.out HB7.out HG7.out⟩⟩)
            case measure => simp [intOf]
          case neg =>
            have hfg : head_Get.f 3 a0 a1 a f a4 a5 a6 (ofN (cand true false P)) = some (0, 0, 7) := by
              have h := f_getHead 0 a0 a1 a f a4 a5 a6 (cand true false P) (cand_lt true false P HP.out) (by have := cand_len true false P; omega)
              rw [getHead_cand P HR.out HP.out a f true false, if_neg hgd] at h
              exact h
            have HFG := Aside0.mk hfg
            have HGD := Aside0.mk hgd
            clear hfg hgd
            go_wp2_with fail
            refine (head_Get.calls 3 a0 a1 a f a4 a5 a6 A5 c5_ (ofN (cand true false P)) _ _ _ _ (Kd.Q_reads' HQ5.out).2.2 (Kd.Q_reads' HQ5.out).2.1 (GH_below HG.out (below_then HB2.out HB2.out.size HS5.out.below)) HFG.out).mono ?_
            rintro e x6 ⟨rfl, hb6⟩
            have HS6 := Aside0.mk (HS5.out.step hb6)
            have HQ6 := Aside0.mk (Kd.Q_below HQ5.out hb6)
            clear hb6 c0 c1 c2 c3 c4 c5 c6
            go_wp2_with fail
            go_roundw
            case rel => exact Or.inr (Or.inl ⟨rfl, ⟨HS6.out.skip true false (by decide) (by decide) HGD.out⟩⟩)
            case measure => simp [intOf]
        · have bj : wr.cell? ⟨wo.heap.size, 1, none⟩ = some (.bool true) := (blk_cell HS.out.blk 1).trans rfl
          have HPUT := Aside0.mk (f_Put 0 P true HP.out)
          go_wp2_with fail
          refine (proto_Put.calls 3 (P : Int) true (ofN (numN P true)) _ HPUT.out).mono ?_
          rintro e x3 ⟨v, rfl, hq, hb3⟩
          have hnl := numN_len P true
          obtain ⟨gq, oq, cq, rfl, hgq1, hgq2, _⟩ := Kd.Q_form hq (by rw [ofN_length]; omega)
          have HS3 := Aside0.mk (HS.out.step hb3)
          have HLT := Aside0.mk (Kd.R_lt HS.out.own)
          have hle2 : w2.heap.size ≤ wr.heap.size := HS.out.below.size
          have HLE2 := Aside0.mk hle2
          have HQ3 := Aside0.mk (Kd.Q_lower (Kd.Q_new' hq HLT.out) hle2)
          clear hq hgq1 hgq2 hle2 bj hnl HPUT
          obtain ⟨q0, q1⟩ := GH_below HG.out (below_then HB2.out HB2.out.size HS3.out.below)
          have HN3 := Aside0.mk (Kd.Q_reads' HQ3.out).2.2
          have hg := heap_alloc_new x3 (.cells #[.int .u8 0, .int .u8 0] 82)
          have hrow := made_row x3 #[.int .u8 0, .int .u8 0] #[.int .u8 255, .int .u8 3] 82
          have hsz := hi82
          have HLEx := Aside0.mk hb3.size
          clear hb3
          go_upto_region 11 with (first | (with_reducible refine wpList_store_row rfl 82 (.tmp 11) (.tmp 31) rfl x3.heap.size #[.int .u8 255, .int .u8 3] rfl rfl 82 #[.int .u8 0, .int .u8 0] hg hsz rfl (by decide) ?_; rw [hrow]))
          clear hg hrow hsz q0 q1
          have hcut := fun W => full_cut2 ⟨x3.heap.size, 0, none⟩ W
          have HF := Aside0.mk (full_at x3)
          have hb4 := below_alloc (Below.refl x3.heap.size x3) (.cells #[.int .u8 255, .int .u8 3] 82)
          obtain ⟨adr, had, hnews⟩ := news_at (Kd.C_below HN3.out hb4) (by rw [ofN_length]; have := numN_len P true; omega)
          obtain rfl := Option.some.inj had
          have HNW := Aside0.mk hnews
          have HS4 := Aside0.mk (HS3.out.step hb4)
          have HB4 := Aside0.mk (below_alloc (Below.refl x3.heap.size x3) (.cells #[.int .u8 255, .int .u8 3] 82))
          have HLT4 := Aside0.mk (show ∀ k, u5.ownBlock = some k → k < (x3.alloc (.cells #[.int .u8 255, .int .u8 3] 82)).heap.size from fun k hk => Nat.lt_of_lt_of_le (HLT.out k hk) (Nat.le_trans HLEx.out HB4.out.size))
          clear hnews had hb4
          generalize x3.alloc (.cells #[.int .u8 255, .int .u8 3] 82) = x4 at HF HNW HS4 HB4 HLT4 ⊢
          obtain ⟨i0, hi0, hz0, hsz0, hby0⟩ := info_parts info5
          go_upto_region 12 with (first
                | ((with_reducible refine gate_builtin (b := .append) (xs := #[.tmp 32, .tmp 33]) rfl ?_)
                   (try (refine gate_guard (by rfl) ?_; dsimp only))
                   at_builtin
                   refine wpList_append_grows _ rfl (.tmp 32) (.tmp 33) 35 rfl 5 i0 (.int .u8 0) 1 1 Tryd.underlying35 hi0 hz0 hsz0 hby0 rfl (by decide) (some ⟨x3.heap.size, 0, none⟩) 2 2 [.int .u8 255, .int .u8 3] rfl (fun h => by cases h) rfl (fun b hb => by cases hb; exact HF.out) ⟨gq, oq, none⟩ (ofN (numN P true)).length cq (encs (Value.int .u8) (ofN (numN P true))) rfl (by rw [encs_length, Nat.mul_one]) HNW.out (fun u hu => by obtain ⟨x, _, rfl⟩ := List.mem_map.1 hu; rfl) (by rw [ofN_length]; have := numN_len P true; omega) (by rw [ofN_length]; have := numN_len P true; simp only [maxLen]; omega) (by rw [ofN_length]; have := numN_len P true; omega) ?_
                   intro v' x5 hown hgr
                   have HOW := Aside0.mk hown
                   have HGR := Aside0.mk hgr
                   clear hown hgr))
          have hq5 : (Kd.int .u8).Q 5 x5 x4.heap.size (fun _ => True) v' (ofN (cand true true P)) := by
            have e : ofN (cand true true P) = [255, 3] ++ ofN (numN P true) := by simp [cand, ofN]
            rw [e]
            exact Kd.Q_of_R (Kd.R_of_own (enc := Value.int .u8) (xs := [255, 3] ++ ofN (numN P true)) (by have h_ := HOW.out; rw [show ([255, 3] ++ ofN (numN P true) : List Int).length = 2 + (ofN (numN P true)).length by rw [List.length_append]; rfl]; exact h_) (fun _ _ => trivial))
          have hb5 : Below x4.heap.size x4 x5 := (Below.refl _ _).grown HGR.out (Nat.le_refl _) (fun k hk => by cases hk)
          have HS5 := Aside0.mk (HS4.out.step hb5)
          have hle4 : w2.heap.size ≤ x4.heap.size := HS4.out.below.size
          have HQ5 := Aside0.mk (Kd.Q_lower (Kd.Q_new' hq5 HLT4.out) hle4)
          obtain ⟨A5, c5_, rfl, hcc, hqc⟩ := Kd.Q_reads HQ5.out
          clear hq5 hb5 hle4 hcc hqc hcut i0 hi0 hz0 hsz0 hby0
          obtain ⟨c0, c1, c2, c3, c4, c5, c6⟩ := (HC2.out.below HS5.out.below)
          by_cases hgd : gd a f true true P = true
          case pos =>
            have hfg : head_Get.f 3 a0 a1 a f a4 a5 a6 (ofN (cand true true P)) = some ((P : Int), ((ofN (cand true true P)).length : Int), 0) := by
              have h := f_getHead 0 a0 a1 a f a4 a5 a6 (cand true true P) (cand_lt true true P HP.out) (by have := cand_len true true P; omega)
              rw [getHead_cand P HR.out HP.out a f true true, if_pos hgd] at h
              rw [h, ofN_length]; rfl
            have HFG := Aside0.mk hfg
            have HGD := Aside0.mk hgd
            clear hfg hgd
            go_wp2_with fail
            refine (head_Get.calls 3 a0 a1 a f a4 a5 a6 A5 c5_ (ofN (cand true true P)) _ _ _ _ (Kd.Q_reads' HQ5.out).2.2 (Kd.Q_reads' HQ5.out).2.1 (GH_below HG.out (below_then HB2.out HB2.out.size HS5.out.below)) HFG.out).mono ?_
            rintro e x6 ⟨rfl, hb6⟩
            have HS6 := Aside0.mk (HS5.out.step hb6)
            have HQ6 := Aside0.mk (Kd.Q_below HQ5.out hb6)
            clear hb6 c0 c1 c2 c3 c4 c5 c6
            have HQ7 := Aside0.mk (Kd.Q_mono HQ6.out (fun k hk => hk.2))
            go_wp2_with (first
                  | ((with_reducible refine gate_builtin (b := .append) (xs := #[.tmp 55, .tmp 57]) rfl ?_)
                     (try (refine gate_guard (by rfl) ?_; dsimp only))
                     at_builtin
                     refine app_qk (w0 := w2) w2.heap.size rfl (.tmp 55) (.tmp 57) u5 (rowsAt a f P 3) _ _ rfl rfl rfl HQ7.out HS6.out.own HS6.out.below HS6.out.below.size (by have := rowsAt_len a f P 3; omega) ?_
                     intro v7 x7 ho7 hb7 hg7
                     have HO7 := Aside0.mk ho7
                     have HB7 := Aside0.mk hb7
                     have HG7 := Aside0.mk hg7
                     clear ho7 hb7 hg7))
            go_roundw
            case rel => exact Or.inr (Or.inr ⟨rfl, ⟨HS6.out.app true true (by decide) (by decide) HGD.out HO7.out HB7.out HG7.out⟩⟩)
            case measure => simp [intOf]
          case neg =>
            have hfg : head_Get.f 3 a0 a1 a f a4 a5 a6 (ofN (cand true true P)) = some (0, 0, 7) := by
              have h := f_getHead 0 a0 a1 a f a4 a5 a6 (cand true true P) (cand_lt true true P HP.out) (by have := cand_len true true P; omega)
              rw [getHead_cand P HR.out HP.out a f true true, if_neg hgd] at h
              exact h
            have HFG := Aside0.mk hfg
            have HGD := Aside0.mk hgd
            clear hfg hgd
            go_wp2_with fail
            refine (head_Get.calls 3 a0 a1 a f a4 a5 a6 A5 c5_ (ofN (cand true true P)) _ _ _ _ (Kd.Q_reads' HQ5.out).2.2 (Kd.Q_reads' HQ5.out).2.1 (GH_below HG.out (below_then HB2.out HB2.out.size HS5.out.below)) HFG.out).mono ?_
            rintro e x6 ⟨rfl, hb6⟩
            have HS6 := Aside0.mk (HS5.out.step hb6)
            have HQ6 := Aside0.mk (Kd.Q_below HQ5.out hb6)
            clear hb6 c0 c1 c2 c3 c4 c5 c6
            go_wp2_with fail
            go_roundw
            case rel => exact Or.inr (Or.inr ⟨rfl, ⟨HS6.out.skip true true (by decide) (by decide) HGD.out⟩⟩)
            case measure => simp [intOf]
        · go_wp2_with fail
          go_roundw
          case rel => exact Or.inr (Or.inr ⟨rfl, ⟨HS.out.own, HS.out.below⟩⟩)
          case measure => simp [intOf]
    · have HBW := Aside0.mk (below_then HB2.out HB2.out.size HO.out.2)
      have HOW := Aside0.mk (Kd.R_lower HO.out.1 HB2.out.size)
      go_wp2_with fail
      refine (HPOST.out _ _ HBW.out HOW.out).mono ?_
      rintro e w9 ⟨rfl, h66⟩
      have H66 := Aside0.mk h66
      clear h66
      go_wp2_with fail
      refine H66.out.mono ?_
      rintro e w10 ⟨r, rfl, hp⟩
      have HPP := Aside0.mk hp
      clear hp
      go_wp2_with fail
      exact HPP.out
end Go.Proofs.YtggpejjfgphihaaDoor.Given
end

section
namespace Go.Proofs.YtggpejjfgphihaaDoor.Given
open Go.RowKit Go.Proofs.YtggpejjfgphihaaDoorW.PrintWords Go.Proofs.YtggpejjfgphihaaDoorW.PrintLast Go.Proofs.YtggpejjfgphihaaDoorW.PrintMore
open Go.Proofs.YtggpejjfgphihaaDoor.H
set_option linter.unusedVariables false
set_option linter.unusedSimpArgs false
def byt (l : List Int) : ByteArray := ⟨(Lib.bytesOf l).toArray⟩
def cb (l0 l1 : List Int) : Int := Extern.BytealgCompare.cmp (byt l0) (byt l1)
theorem cb_self (l : List Int) : cb l l = 0 := by
  unfold cb Extern.BytealgCompare.cmp
  have h : (List.range (min (byt l).size (byt l).size)).find? (fun i => (byt l)[i]! != (byt l)[i]!) = none := by
    rw [List.find?_eq_none]; simp
  rw [h]; simp
theorem run_byt (A : Option Addr) (c : Nat) (l : List Int) (w : World) (h : Kd.C (Kd.int .u8) w A l.length l) : (Extern.Bytes.bytesOf (.slice A l.length c)).run Tryd.prog w = .ok (byt l) w := by
  cases A with
  | none =>
    have h0 : l = [] := by
      obtain ⟨_, _, hh⟩ := Kd.reads_of_C (d := (0 : Int)) h
      cases l with
      | nil => rfl
      | cons x xs => obtain ⟨ad, ha, _⟩ := hh (by simp); cases ha
    subst h0
    rfl
  | some ad =>
    have hc : ∀ j x, l[j]? = some x → w.cell? (ad.add j) = some (.int .u8 x) := by
      intro j x hx
      obtain ⟨hj, hx2⟩ := List.getElem?_eq_some_iff.1 hx
      obtain ⟨_, _, hh⟩ := Kd.reads_of_C (d := (0 : Int)) h
      obtain ⟨ad', ha, hcell⟩ := hh (by omega)
      cases ha
      rw [hcell j hj]
      simp [List.getD_eq_getElem?_getD, hx]
    have := Lib.run_loadBytesX (P := Tryd.prog) (w := w) l ad .empty hc
    unfold Extern.Bytes.bytesOf byt
    rw [this]
    simp [ByteArray.empty, ByteArray.emptyWithCapacity]
    all_goals rfl
set_option maxHeartbeats 1000000 in
set_option maxRecDepth 100000 in
theorem compare_calls (A0 : Option Addr) (c0 : Nat) (l0 : List Int) (A1 : Option Addr) (c1 : Nat) (l1 : List Int) (w : World) (hr0 : Kd.C (Kd.int .u8) w A0 l0.length l0) (hr1 : Kd.C (Kd.int .u8) w A1 l1.length l1) :
    Calls Tryd.prog 65 #[.slice A0 l0.length c0, .slice A1 l1.length c1] w fun e w' => e = .returned (.int .i64 (cb l0 l1)) ∧ w' = w := by
  have hrun : (Extern.BytealgCompare.compare #[.slice A0 l0.length c0, .slice A1 l1.length c1]).run Tryd.prog w = .ok (.int .i64 (cb l0 l1)) w := by
    change Sem.run Tryd.prog (do pure (goInt (Extern.BytealgCompare.cmp (← Extern.Bytes.bytesOf (.slice A0 l0.length c0)) (← Extern.Bytes.bytesOf (.slice A1 l1.length c1))))) w = _
    simp only [Sem.run_bind, run_byt A0 c0 l0 w hr0, run_byt A1 c1 l1 w hr1, Result.andThen_ok, Sem.run_pure]
    rfl
  have HRUN := Aside0.mk hrun
  clear hrun hr0 hr1
  go_enter Tryd.func65, Tryd.ntmps65
  go_wp2
  rw [run_callFunc_extern Tryd.func83 (by kernel_rfl) (by kernel_rfl) (by kernel_rfl) (e := Extern.BytealgCompare.compare) (by kernel_rfl), HRUN.out]
  simp only [Result.andThen]
  rw [Oper.upon_value]
  go_wp2
  go_ret
  exact ⟨rfl, rfl⟩
def orV (a b : Int) : Int := if a = 0 then b else a
def cmpV (l0 l1 : List Int) : Int := orV (wrap64 ((l0.length : Int) - (l1.length : Int))) (cb l0 l1)
set_option maxHeartbeats 1000000 in
set_option maxRecDepth 100000 in
theorem or_calls (a b : Int) (g : Nat) (w : World) (h0 : w.cell? ⟨g, 0, none⟩ = some (.int .i64 a)) (h1 : w.cell? ⟨g, 1, none⟩ = some (.int .i64 b)) :
    Calls Tryd.prog 64 #[.slice (some ⟨g, 0, none⟩) 2 2] w fun e w' => e = .returned (.int .i64 (if a = 0 then b else a)) ∧ w' = w := by
  by_cases ha : a = 0
  · subst ha
    by_cases hb : b = 0
    · subst hb
      go_enter Tryd.func64, Tryd.ntmps64
      go_wp2
      go_loop [8] (fun v => v = .int .i64 0 ∨ v = .int .i64 1 ∨ v = .int .i64 2) (fun v => 2 - (intOf v).toNat)
      case atStart => exact Or.inl rfl
      case round =>
        rcases hrel with rfl | rfl | rfl
        · go_wp2
          go_round
          case rel => exact Or.inr (Or.inl rfl)
          case measure => simp [intOf]
        · go_wp2
          go_round
          case rel => exact Or.inr (Or.inr rfl)
          case measure => simp [intOf]
        · go_wp2
          go_ret
          exact ⟨by first | rfl | (simp; done), rfl⟩
    · have hb1 : (b == 0) = false := beq_eq_false_iff_ne.2 hb
      have hb2 : (b != 0) = true := bne_iff_ne.2 hb
      have HB := Aside0.mk hb
      clear hb
      go_enter Tryd.func64, Tryd.ntmps64
      go_wp2
      go_loop [8] (fun v => v = .int .i64 0 ∨ v = .int .i64 1) (fun v => 2 - (intOf v).toNat)
      case atStart => exact Or.inl rfl
      case round =>
        rcases hrel with rfl | rfl
        · go_wp2
          go_round
          case rel => exact Or.inr rfl
          case measure => simp [intOf]
        · go_wp2
          go_ret
          exact ⟨by first | rfl | (simp; done), rfl⟩
  · have hb1 : (a == 0) = false := beq_eq_false_iff_ne.2 ha
    have hb2 : (a != 0) = true := bne_iff_ne.2 ha
    have HB := Aside0.mk ha
    clear ha
    go_enter Tryd.func64, Tryd.ntmps64
    go_wp2
    go_loop [8] (fun v => v = .int .i64 0) (fun v => 2 - (intOf v).toNat)
    case atStart => exact rfl
    case round =>
      obtain rfl := hrel
      go_wp2
      all_goals first
        | (go_ret; exact ⟨by rw [if_neg HB.out]; rfl, rfl⟩)
        | (exfalso; have := HB.out; omega)
        | (go_ret; exact ⟨by simp [HB.out], rfl⟩)
theorem or_calls' (a b : Int) (g : Nat) (w : World) (h0 : w.cell? ⟨g, 0, none⟩ = some (.int .i64 a)) (h1 : w.cell? ⟨g, 1, none⟩ = some (.int .i64 b)) :
    Calls Tryd.prog 64 #[.slice (some ⟨g, 0, none⟩) 2 2] w fun e w' => e = .returned (.int .i64 (orV a b)) ∧ w' = w := or_calls a b g w h0 h1
set_option maxHeartbeats 1000000 in
set_option maxRecDepth 100000 in
theorem cmp_calls (A0 : Option Addr) (c0 : Nat) (l0 : List Int) (A1 : Option Addr) (c1 : Nat) (l1 : List Int) (w : World) (hr0 : Kd.C (Kd.int .u8) w A0 l0.length l0) (hr1 : Kd.C (Kd.int .u8) w A1 l1.length l1) :
    Calls Tryd.prog 63 #[.slice A0 l0.length c0, .slice A1 l1.length c1] w fun e w' => e = .returned (.int .i64 (cmpV l0 l1)) ∧ ∃ q os, w' = Sort.grow (w.drewN q) os := by
  have HR0 := Aside0.mk hr0
  have HR1 := Aside0.mk hr1
  obtain ⟨dv, hdv⟩ : ∃ dv, dv = wrap64 ((l0.length : Int) - (l1.length : Int)) := ⟨_, rfl⟩
  have hdw : IntKind.i64.wrap ((l0.length : Int) - (l1.length : Int)) = dv := by rw [i64_w, hdv]
  have hdx : wrap64 ((l0.length : Int) - (l1.length : Int)) = dv := hdv.symm
  have HDV := Aside0.mk hdv
  clear hr0 hr1 hdv
  go_enter Tryd.func63, Tryd.ntmps63
  go_wp2_with fail
  refine (compare_calls A0 c0 l0 A1 c1 l1 _ HR0.out HR1.out).mono ?_
  rintro e w1 ⟨rfl, rfl⟩
  go_wp2_with fail
  refine (or_calls' dv (cb l0 l1) w1.heap.size _ (cell_of_row _ _ 0 _ 3 (0, 0) (heap_alloc_new w1 _)) (cell_of_row _ _ 1 _ 3 (0, 0) (heap_alloc_new w1 _))).mono ?_
  rintro e w2 ⟨rfl, rfl⟩
  go_wp2_with fail
  go_ret
  exact ⟨by rw [HDV.out]; rfl, 0, #[.cells #[.int .i64 dv, .int .i64 (cb l0 l1)] 3], by rw [Sort.alloc_eq_grow]; rfl⟩
end Go.Proofs.YtggpejjfgphihaaDoor.Given
end

section
namespace Go.Proofs.YtggpejjfgphihaaDoor.Given
open Go.RowKit Go.Proofs.YtggpejjfgphihaaDoorW.PrintWords Go.Proofs.YtggpejjfgphihaaDoorW.PrintLast Go.Proofs.YtggpejjfgphihaaDoorW.PrintMore
open Go.Proofs.YtggpejjfgphihaaDoor.H Go.Shelf Go.Lib Go.Sort
set_option linter.unusedVariables false
set_option linter.unusedSimpArgs false
def rho : Ren := ⟨fun n => match n with | 20 => 91 | n => n, fun n => match n with | 22 => 47 | 24 => 35 | 25 => 92 | n => n, fun n => n⟩
theorem lays20 : SlLaysF.n20 Tryd.prog rho where
  mixed := by kernel_rfl
  f20 := ⟨"slices.insertionSortCmpFunc[[]byte]", by decide, Tryd.func91.trans (by kernel_rfl)⟩
  t0 := by kernel_rfl
  a0 := fun w => by kernel_rfl
  z0 := fun w => by kernel_rfl
  v0 := fun w => by kernel_rfl
  t3 := by kernel_rfl
  a3 := fun w => by kernel_rfl
  z3 := fun w => by kernel_rfl
  v3 := fun w => by kernel_rfl
  t4 := by kernel_rfl
  a4 := fun w => by kernel_rfl
  z4 := fun w => by kernel_rfl
  v4 := fun w => by kernel_rfl
  t22 := by kernel_rfl
  a22 := fun w => by kernel_rfl
  z22 := fun w => by kernel_rfl
  v22 := fun w => by kernel_rfl
  a24 := fun w => by kernel_rfl
  z24 := fun w => by kernel_rfl
  t25 := by kernel_rfl
  a25 := fun w => by kernel_rfl
  z25 := fun w => by kernel_rfl
  v25 := fun w => by kernel_rfl
def SomeInt (w : World) (e : Ending) (w' : World) : Prop := ∃ r : Int, e = .returned (.int .i64 r) ∧ w' = w
set_option maxHeartbeats 2000000 in
set_option maxRecDepth 100000 in
theorem len64_calls (n : Int) (h : n = 1 ∨ n = 2 ∨ n = 3 ∨ n = 4) (w : World) : Calls Tryd.prog 100 #[.int .u64 n] w (SomeInt w) := by
  rcases h with rfl | rfl | rfl | rfl
  all_goals
    go_enter Tryd.func100, Tryd.ntmps100
    go_wp2
    go_ret
    exact ⟨_, rfl, rfl⟩
set_option maxHeartbeats 2000000 in
set_option maxRecDepth 100000 in
theorem len_calls (n : Int) (h : n = 1 ∨ n = 2 ∨ n = 3 ∨ n = 4) (w : World) : Calls Tryd.prog 82 #[.int .u64 n] w (SomeInt w) := by
  have H := Aside0.mk h
  clear h
  go_enter Tryd.func82, Tryd.ntmps82
  go_wp2_with fail
  refine (len64_calls n H.out _).mono ?_
  rintro e w' ⟨r, rfl, rfl⟩
  go_wp2_with fail
  go_ret
  exact ⟨_, rfl, rfl⟩
def encR (As : Nat → Option Addr) (Ls : Nat → List Int) (Cs : Nat → Nat) (i : Nat) : Value := .slice (As i) (Ls i).length (Cs i)
def cfR (Ls : Nat → List Int) (i j : Nat) : Int := cmpV (Ls i) (Ls j)
structure Rows4 (As : Nat → Option Addr) (Ls : Nat → List Int) (Cs : Nat → Nat) (w : World) (blk n : Nat) : Prop where
  reads : ∀ i, Kd.C (Kd.int .u8) w (As i) (Ls i).length (Ls i)
  apart : ∀ i ad, As i = some ad → ad.block ≠ blk ∧ (0 < (Ls i).length → ad.block < w.heap.size)
  holds : Sort.Holds (encR As Ls Cs) w blk 0 (Array.range n)
  lt : blk < w.heap.size
theorem sw_cell {enc : Nat → Value} {w : World} {blk m : Nat} {dk : Array Nat} {os : Array Obj} (a : Addr) (h : a.block ≠ blk) (hl : a.block < w.heap.size) : (sortWorld enc w blk 0 m dk os).cell? a = w.cell? a := by
  unfold sortWorld
  rw [Sort.cell?_grow _ _ _ (by rw [size_putRow]; exact hl), Sort.cell?_putRow_other _ _ _ _ _ _ (Or.inl h)]
  rfl
theorem C_moved {w w1 : World} {A : Option Addr} {l : List Int} (h : Kd.C (Kd.int .u8) w A l.length l) (hm : ∀ ad, A = some ad → 0 < l.length → ∀ j, w1.cell? (ad.add j) = w.cell? (ad.add j)) : Kd.C (Kd.int .u8) w1 A l.length l := by
  refine ⟨h.1, h.2.1, fun hn => ?_⟩
  obtain ⟨ad, ha, hc⟩ := h.2.2 hn
  refine ⟨ad, ha, fun j p hj => ?_⟩
  obtain ⟨c, hs, hK, hcell⟩ := hc j p hj
  exact ⟨c, hs, hK, fun i u hu => by rw [hm ad ha hn]; exact hcell i u hu⟩
theorem cmp_lays {As : Nat → Option Addr} {Ls : Nat → List Int} {Cs : Nat → Nat} {w : World} {blk n : Nat} (h : Rows4 As Ls Cs w blk n) :
    CmpLays1 Tryd.prog 63 #[] (encR As Ls Cs) (cfR Ls) blk 0 (Array.range n).size w := by
  intro m os dk hs x y
  have hx := C_moved (w1 := sortWorld (encR As Ls Cs) w blk 0 m dk os) (h.reads x) (fun ad ha hp j => sw_cell _ (by rw [add_block]; exact (h.apart x ad ha).1) (by rw [add_block]; exact (h.apart x ad ha).2 hp))
  have hy := C_moved (w1 := sortWorld (encR As Ls Cs) w blk 0 m dk os) (h.reads y) (fun ad ha hp j => sw_cell _ (by rw [add_block]; exact (h.apart y ad ha).1) (by rw [add_block]; exact (h.apart y ad ha).2 hp))
  exact cmp_calls (As x) (Cs x) (Ls x) (As y) (Cs y) (Ls y) _ hx hy
def sortR (Ls : Nat → List Int) (n : Nat) : Array Nat := Sort.insertionSort (ltOf (cfR Ls)) (Array.range n) 0 n
theorem one_cellR (As : Nat → Option Addr) (Ls : Nat → List Int) (Cs : Nat → Nat) : OneCell (encR As Ls Cs) := fun _ => rfl
theorem ins_calls {As : Nat → Option Addr} {Ls : Nat → List Int} {Cs : Nat → Nat} {w : World} {blk n : Nat} (cap : Nat) (h : Rows4 As Ls Cs w blk n) (hn : n ≤ 4) :
    Calls Tryd.prog 91 #[.slice (some ⟨blk, 0, none⟩) n cap, .int .i64 0, .int .i64 (n : Int), .func (.func 63) #[] #[]] w fun e w' => e = .returned (.tuple #[]) ∧ SW (encR As Ls Cs) w blk 0 (sortR Ls n) w' := by
  have hs : (Array.range n).size = n := Array.size_range
  have := Any.insertionSortCmpFunc_s lays20 (encR As Ls Cs) (cfR Ls) 63 #[] blk 0 cap 0 n (Array.range n) (Array.range n) w w (enters_of Tryd.func63 (by kernel_rfl) rfl) (cmp_lays h) ⟨one_cellR As Ls Cs, h.holds, h.lt⟩ rfl (SW.start h.holds) (Nat.zero_le _) (by omega) (by omega)
  rw [hs] at this
  exact this
set_option maxHeartbeats 2000000 in
set_option maxRecDepth 100000 in
theorem pdq_calls {As : Nat → Option Addr} {Ls : Nat → List Int} {Cs : Nat → Nat} {w : World} {blk n : Nat} (cap : Nat) (lim : Int) (h : Rows4 As Ls Cs w blk n) (hn : n = 1 ∨ n = 2 ∨ n = 3 ∨ n = 4) :
    Calls Tryd.prog 81 #[.slice (some ⟨blk, 0, none⟩) n cap, .int .i64 0, .int .i64 (n : Int), .int .i64 lim, .func (.func 63) #[] #[]] w fun e w' => e = .returned (.tuple #[]) ∧ SW (encR As Ls Cs) w blk 0 (sortR Ls n) w' := by
  have hi := ins_calls cap h (by omega)
  have HI := Aside0.mk hi
  have h12 : decide ((n : Int) - 0 ≤ 12) = true := decide_eq_true (by omega)
  have h13 : decide ((n : Int) ≤ 12) = true := decide_eq_true (by omega)
  have hw : wrap64 ((n : Int) - 0) = (n : Int) := by unfold wrap64; omega
  have hw2 : wrap64 (n : Int) = (n : Int) := by unfold wrap64; omega
  have hw3 : IntKind.i64.wrap ((n : Int) - 0) = (n : Int) := by rw [i64_w, hw]
  have hw4 : IntKind.i64.wrap (n : Int) = (n : Int) := by rw [i64_w, hw2]
  clear hi h hn
  go_enter Tryd.func81, Tryd.ntmps81
  go_wp2
  refine wp_loop_rounds 1 ?_
  rw [rounds_succ]
  go_wp2_with fail
  refine HI.out.mono ?_
  rintro e w' ⟨rfl, hw'⟩
  have HW := Aside0.mk hw'
  clear hw'
  go_wp2_with fail
  (try simp only [Exit.inBlock, Exit.then])
  refine bodyPost_ret (results_none rfl _ _ _) rfl ?_
  exact ⟨rfl, HW.out⟩
set_option maxHeartbeats 2000000 in
set_option maxRecDepth 100000 in
theorem sortFunc_calls {As : Nat → Option Addr} {Ls : Nat → List Int} {Cs : Nat → Nat} {w : World} {blk n : Nat} (cap : Nat) (h : Rows4 As Ls Cs w blk n) (hn : n = 1 ∨ n = 2 ∨ n = 3 ∨ n = 4) :
    Calls Tryd.prog 62 #[.slice (some ⟨blk, 0, none⟩) n cap, .func (.func 63) #[] #[]] w fun e w' => e = .returned (.tuple #[]) ∧ SW (encR As Ls Cs) w blk 0 (sortR Ls n) w' := by
  have hp := fun lim => pdq_calls cap lim h hn
  have HP := Aside0.mk hp
  have hN : (n : Int) = 1 ∨ (n : Int) = 2 ∨ (n : Int) = 3 ∨ (n : Int) = 4 := by omega
  have HN := Aside0.mk hN
  have hu : IntKind.u64.wrap (n : Int) = (n : Int) := by rcases hN with h | h | h | h <;> rw [h] <;> decide
  clear hp h hn hN
  go_enter Tryd.func62, Tryd.ntmps62
  go_wp2_with fail
  refine (len_calls (n : Int) HN.out _).mono ?_
  rintro e w1 ⟨r, rfl, rfl⟩
  go_wp2_with fail
  refine (HP.out r).mono ?_
  rintro e w' ⟨rfl, hw'⟩
  have HW := Aside0.mk hw'
  clear hw'
  go_wp2_with fail
  go_end0
  exact ⟨rfl, HW.out⟩
end Go.Proofs.YtggpejjfgphihaaDoor.Given
end

section
namespace Go.Proofs.YtggpejjfgphihaaDoor.Given
open Go.RowKit Go.Proofs.YtggpejjfgphihaaDoorW.PrintWords Go.Proofs.YtggpejjfgphihaaDoorW.PrintLast Go.Proofs.YtggpejjfgphihaaDoorW.PrintMore
open Go.Proofs.YtggpejjfgphihaaDoor.H
set_option linter.unusedVariables false
set_option linter.unusedSimpArgs false
structure Pos (A : Nat → Option Addr) (L : Nat → List Int) (C : Nat → Nat) (W : World) (blk n : Nat) : Prop where
  cell : ∀ j, j < n → W.cell? ⟨blk, j, none⟩ = some (.slice (A j) (L j).length (C j))
  free : ∀ j, j < n → W.frozen? ⟨blk, j, none⟩ = false
  reads : ∀ j, Kd.C (Kd.int .u8) W (A j) (L j).length (L j)
  caps : ∀ j, (L j).length ≤ C j
  apart : ∀ j ad, A j = some ad → ad.block ≠ blk
theorem Pos.drawn {A : Nat → Option Addr} {L : Nat → List Int} {C : Nat → Nat} {W W1 : World} {blk n : Nat} (h : Pos A L C W blk n) (hd : Drawn0 W W1) : Pos A L C W1 blk n := by
  obtain ⟨⟨m, rfl⟩⟩ := hd
  exact ⟨h.cell, h.free, fun j => Kd.C_drewN (h.reads j) m, h.caps, h.apart⟩
theorem eq_true (l : List Int) : bytes_Equal.f l l = some true := by unfold bytes_Equal.f; simp
theorem eq_false {l0 l1 : List Int} (h : l0.length ≠ l1.length) : bytes_Equal.f l0 l1 = some false := by
  unfold bytes_Equal.f
  rw [Lib.strOfNums_toList, Lib.strOfNums_toList]
  congr 1
  rw [beq_eq_false_iff_ne]
  intro hh
  have := congrArg List.length hh
  unfold Lib.bytesOf at this
  simp at this
  exact h this
theorem eq_q {A : Nat → Option Addr} {L : Nat → List Int} {C : Nat → Nat} {W : World} {blk n : Nat} (h : Pos A L C W blk n) (i j : Nat) (r : Bool) (hr : bytes_Equal.f (L i) (L j) = some r) (q : Nat) :
    Calls Tryd.prog 67 #[.slice (A i) (L i).length (C i), .slice (A j) (L j).length (C j)] (W.drewN q) fun e w'' => e = .returned (.bool r) ∧ ∃ m, w'' = W.drewN m :=
  Calls.quiet_of ((bytes_Equal.calls (A i) (C i) (L i) (A j) (C j) (L j) r _ (Kd.C_drewN (h.reads i) q) (h.caps i) (Kd.C_drewN (h.reads j) q) (h.caps j) hr).mono fun e w' ⟨he, ⟨m, hm⟩⟩ => ⟨he, m, hm⟩)
structure Aft (W w' : World) (blk : Nat) : Prop where
  below : ∀ (B : Nat) (a : World), B ≤ blk → Below B a W → Below B a w'
  cell : ∀ x : Addr, x.block ≠ blk → w'.cell? x = W.cell? x
theorem Aft.refl (W : World) (blk : Nat) : Aft W W blk := ⟨fun _ _ _ h => h, fun _ _ => rfl⟩
theorem Aft.drawn {W w w' : World} {blk : Nat} (h : Aft W w blk) (hd : Drawn0 w w') : Aft W w' blk := by
  obtain ⟨⟨m, rfl⟩⟩ := hd
  exact ⟨fun B a hb hB => pw_below_drewN (h.below B a hb hB) m, fun x hx => h.cell x hx⟩
theorem Aft.set {W w : World} {blk : Nat} (h : Aft W w blk) (o : Nat) (v : Value) : Aft W (w.setCell ⟨blk, o, none⟩ v) blk :=
  ⟨fun B a hb hB => (h.below B a hb hB).setCell hb v, fun x hx => by rw [World.cell?_of_block (Below.heap_setCell _ _ _ _ hx)]; exact h.cell x hx⟩
theorem Aft.sets {W w : World} {blk : Nat} (h : Aft W w blk) (o : Nat) (vs : List Value) : Aft W (w.setCells blk o vs) blk :=
  ⟨fun B a hb hB => below_setCells hb vs o w (h.below B a hb hB), fun x hx => by rw [World.cell?_setCells_out blk vs o w x (fun e => absurd e hx)]; exact h.cell x hx⟩
theorem cut_at (blk n cap j : Nat) (h1 : j ≤ n) (h2 : j < cap) (W : World) : (Instr.slice 47 (.slice (some ⟨blk, 0, none⟩) n cap) (some (.int .i64 (j : Int))) none none).run Tryd.prog W = .ok (.slice (some ⟨blk, j, none⟩) (n - j) (cap - j)) W := by
  obtain ⟨i0, hi0, _, hsz, _⟩ := info_parts info35
  have := cut_from (P := Tryd.prog) 47 35 .i64 Tryd.underlying47 hi0 1 hsz (some ⟨blk, 0, none⟩) n cap (j : Int) (by omega) (by omega) W
  rw [Int.toNat_natCast, if_neg (by omega)] at this
  rw [this]
  simp [Option.map, Nat.mul_one, add_plain]
theorem clear_at (blk o n c : Nat) (hn : 0 < n) (W : World) (hc : ∀ j, j < n → (W.cell? ⟨blk, o + j, none⟩).isSome = true) (hf : ∀ j, j < n → W.frozen? ⟨blk, o + j, none⟩ = false) (ty : TypeId) :
    (Builtin.clear_ #[47] ty #[.slice (some ⟨blk, o, none⟩) n c]).run Tryd.prog W = .ok (.tuple #[]) (W.setCells blk o (List.replicate n (.slice none 0 0))) :=
  Lib.run_clear_slice W 47 35 ty (.slice none 0 0) Tryd.underlying47 (fun w => by kernel_rfl) rfl rfl blk o n c hn hc hf
theorem take_at (blk n cap j : Nat) (h1 : j ≤ n) (h2 : n ≤ cap) (W : World) : (Instr.slice 47 (.slice (some ⟨blk, 0, none⟩) n cap) none (some (.int .i64 (j : Int))) none).run Tryd.prog W = .ok (.slice (some ⟨blk, 0, none⟩) j cap) W := by
  obtain ⟨i0, hi0, _, hsz, _⟩ := info_parts info35
  have h := (print_take_of (P := Tryd.prog) (Value.int .u8) 0 47 35 .i64 Tryd.underlying47 hi0 hsz (some ⟨blk, 0, none⟩) cap (List.replicate n (0 : Int)) (j : Int) (by omega) (by rw [List.length_replicate]; omega) (by rw [List.length_replicate]; exact h2)).1 W
  rw [List.length_replicate, Int.toNat_natCast, List.length_take, List.length_replicate, Nat.min_eq_left h1] at h
  exact h
theorem Pos.clear {A : Nat → Option Addr} {L : Nat → List Int} {C : Nat → Nat} {W : World} {blk N : Nat} (h : Pos A L C W blk N) (o n c : Nat) (hn : 0 < n) (ho : o + n ≤ N) (ty : TypeId) :
    (Builtin.clear_ #[47] ty #[.slice (some ⟨blk, o, none⟩) n c]).run Tryd.prog W = .ok (.tuple #[]) (W.setCells blk o (List.replicate n (.slice none 0 0))) :=
  clear_at blk o n c hn W (fun j hj => by rw [h.cell (o + j) (by omega)]; rfl) (fun j hj => h.free (o + j) (by omega)) ty
set_option maxHeartbeats 4000000 in
set_option maxRecDepth 100000 in
theorem keep2 {A : Nat → Option Addr} {L : Nat → List Int} {C : Nat → Nat} {W : World} {blk : Nat} (cap : Nat) (h : Pos A L C W blk 2) (h1 : (L 1).length ≠ (L 0).length) :
    Calls Tryd.prog 66 #[.slice (some ⟨blk, 0, none⟩) 2 cap, .func (.func 67) #[] #[]] W fun e w' => e = .returned (.slice (some ⟨blk, 0, none⟩) 2 cap) ∧ Drawn0 W w' := by
  have H := Aside0.mk h
  have H1 := Aside0.mk h1
  clear h h1
  have e67 : ∀ args w, (callFunc 67 args).run Tryd.prog w = .ok (.enter 67 args) w := enters_of Tryd.func67 (by kernel_rfl) rfl
  go_enter Tryd.func66, Tryd.ntmps66
  go_wp2
  go_loopw [5] (fun v wr => (v = .int .i64 1 ∨ v = .int .i64 2) ∧ Aside0 (Drawn0 W wr)) (fun v _ => 2 - (intOf v).toNat)
  case atStart => exact ⟨Or.inl rfl, ⟨Drawn0.refl _⟩⟩
  case round =>
    obtain ⟨hv, HD⟩ := hrel
    have HP := Aside0.mk (H.out.drawn HD.out)
    rcases hv with rfl | rfl
    · have q0 := HP.out.cell 0 (by omega)
      have q1 := HP.out.cell 1 (by omega)
      have he := eq_q HP.out 1 0 false (eq_false H1.out)
      go_wp2
      go_quiet ((go_at_fn 67; exact he _))
      go_wp2
      exact ⟨⟨(Or.inr rfl), ⟨Drawn0.step HD.out _⟩⟩, by simp [intOf]⟩
    · go_wp2
      go_ret
      exact ⟨rfl, HD.out⟩
set_option maxHeartbeats 4000000 in
set_option maxRecDepth 100000 in
theorem keep4 {A : Nat → Option Addr} {L : Nat → List Int} {C : Nat → Nat} {W : World} {blk : Nat} (cap : Nat) (h : Pos A L C W blk 4) (h1 : (L 1).length ≠ (L 0).length) (h2 : (L 2).length ≠ (L 1).length) (h3 : (L 3).length ≠ (L 2).length) :
    Calls Tryd.prog 66 #[.slice (some ⟨blk, 0, none⟩) 4 cap, .func (.func 67) #[] #[]] W fun e w' => e = .returned (.slice (some ⟨blk, 0, none⟩) 4 cap) ∧ Drawn0 W w' := by
  have H := Aside0.mk h
  have H1 := Aside0.mk h1
  have H2 := Aside0.mk h2
  have H3 := Aside0.mk h3
  clear h h1 h2 h3
  have e67 : ∀ args w, (callFunc 67 args).run Tryd.prog w = .ok (.enter 67 args) w := enters_of Tryd.func67 (by kernel_rfl) rfl
  go_enter Tryd.func66, Tryd.ntmps66
  go_wp2
  go_loopw [5] (fun v wr => (v = .int .i64 1 ∨ v = .int .i64 2 ∨ v = .int .i64 3 ∨ v = .int .i64 4) ∧ Aside0 (Drawn0 W wr)) (fun v _ => 4 - (intOf v).toNat)
  case atStart => exact ⟨Or.inl rfl, ⟨Drawn0.refl _⟩⟩
  case round =>
    obtain ⟨hv, HD⟩ := hrel
    have HP := Aside0.mk (H.out.drawn HD.out)
    rcases hv with rfl | rfl | rfl | rfl
    · have q0 := HP.out.cell 0 (by omega)
      have q1 := HP.out.cell 1 (by omega)
      have he := eq_q HP.out 1 0 false (eq_false H1.out)
      go_wp2
      go_quiet ((go_at_fn 67; exact he _))
      go_wp2
      exact ⟨⟨(Or.inr (Or.inl rfl)), ⟨Drawn0.step HD.out _⟩⟩, by simp [intOf]⟩
    · have q0 := HP.out.cell 1 (by omega)
      have q1 := HP.out.cell 2 (by omega)
      have he := eq_q HP.out 2 1 false (eq_false H2.out)
      go_wp2
      go_quiet ((go_at_fn 67; exact he _))
      go_wp2
      exact ⟨⟨(Or.inr (Or.inr (Or.inl rfl))), ⟨Drawn0.step HD.out _⟩⟩, by simp [intOf]⟩
    · have q0 := HP.out.cell 2 (by omega)
      have q1 := HP.out.cell 3 (by omega)
      have he := eq_q HP.out 3 2 false (eq_false H3.out)
      go_wp2
      go_quiet ((go_at_fn 67; exact he _))
      go_wp2
      exact ⟨⟨(Or.inr (Or.inr (Or.inr rfl))), ⟨Drawn0.step HD.out _⟩⟩, by simp [intOf]⟩
    · go_wp2
      go_ret
      exact ⟨rfl, HD.out⟩
set_option maxHeartbeats 2000000 in
set_option maxRecDepth 100000 in
theorem keep1 {W : World} {blk : Nat} (cap : Nat) : Calls Tryd.prog 66 #[.slice (some ⟨blk, 0, none⟩) 1 cap, .func (.func 67) #[] #[]] W fun e w' => e = .returned (.slice (some ⟨blk, 0, none⟩) 1 cap) ∧ Drawn0 W w' := by
  go_enter Tryd.func66, Tryd.ntmps66
  go_wp2
  go_ret
  exact ⟨rfl, Drawn0.refl _⟩
set_option maxHeartbeats 4000000 in
set_option maxRecDepth 100000 in
theorem drop2 {A : Nat → Option Addr} {L : Nat → List Int} {C : Nat → Nat} {W : World} {blk : Nat} (cap : Nat) (hcap : 2 ≤ cap) (h : Pos A L C W blk 2) (h01 : L 1 = L 0) :
    Calls Tryd.prog 66 #[.slice (some ⟨blk, 0, none⟩) 2 cap, .func (.func 67) #[] #[]] W fun e w' => e = .returned (.slice (some ⟨blk, 0, none⟩) 1 cap) ∧ Aft W w' blk ∧ w'.cell? ⟨blk, 0, none⟩ = some (.slice (A 0) (L 0).length (C 0)) := by
  have H := Aside0.mk h
  have H01 := Aside0.mk h01
  have hcut : ∀ W', (Instr.slice 47 (.slice (some ⟨blk, 0, none⟩) 2 cap) (some (.int .i64 1)) none none).run Tryd.prog W' = .ok (.slice (some ⟨blk, 1, none⟩) 1 (cap - 1)) W' := fun W' => cut_at blk 2 cap 1 (by omega) (by omega) W'
  have htake : ∀ W', (Instr.slice 47 (.slice (some ⟨blk, 0, none⟩) 2 cap) none (some (.int .i64 1)) none).run Tryd.prog W' = .ok (.slice (some ⟨blk, 0, none⟩) 1 cap) W' := fun W' => take_at blk 2 cap 1 (by omega) hcap W'
  have HCAP := Aside0.mk hcap
  clear h h01 hcap
  have e67 : ∀ args w, (callFunc 67 args).run Tryd.prog w = .ok (.enter 67 args) w := enters_of Tryd.func67 (by kernel_rfl) rfl
  go_enter Tryd.func66, Tryd.ntmps66
  go_wp2
  refine wp_loop_rounds 1 ?_
  rw [rounds_succ]
  have q0 := H.out.cell 0 (by omega)
  have q1 := H.out.cell 1 (by omega)
  have he := eq_q H.out 1 0 true (by rw [H01.out]; exact eq_true _)
  go_wp2
  go_quiet ((go_at_fn 67; exact he _))
  go_wp2
  clear he q0 q1
  obtain ⟨W2, hW2⟩ : ∃ W2, W2 = W.drewN nq := ⟨_, rfl⟩
  have hd2 : Drawn0 W W2 := ⟨⟨_, hW2⟩⟩
  have H2 := Aside0.mk (H.out.drawn hd2)
  have A2 := Aside0.mk ((Aft.refl W blk).drawn hd2)
  rw [← hW2]
  clear hW2 hd2
  refine wp_loop_rounds 1 ?_
  rw [rounds_succ]
  have hclr := fun ty => H2.out.clear 1 1 (cap - 1) (by omega) (by omega) ty
  have HCLR := Aside0.mk (A2.out.sets 1 (List.replicate 1 (.slice none 0 0)))
  have q0 : (W2.setCells blk 1 (List.replicate 1 (.slice none 0 0))).cell? ⟨blk, 0, none⟩ = some (.slice (A 0) (L 0).length (C 0)) := by
    rw [World.cell?_setCells_out blk _ 1 W2 ⟨blk, 0, none⟩ (fun _ _ => Or.inl (show (0 : Nat) < 1 by decide))]; exact H2.out.cell 0 (by omega)
  have Q0 := Aside0.mk q0
  clear q0
  generalize W2.setCells blk 1 (List.replicate 1 (.slice none 0 0)) = W3 at hclr HCLR Q0
  go_wp2
  (try simp only [Exit.inBlock, Exit.then])
  go_ret
  exact ⟨rfl, HCLR.out, Q0.out⟩
end Go.Proofs.YtggpejjfgphihaaDoor.Given
end

section
namespace Go.Proofs.YtggpejjfgphihaaDoor.Given
open Go.RowKit Go.Proofs.YtggpejjfgphihaaDoorW.PrintWords Go.Proofs.YtggpejjfgphihaaDoorW.PrintLast Go.Proofs.YtggpejjfgphihaaDoorW.PrintMore
open Go.Proofs.YtggpejjfgphihaaDoor.H
set_option linter.unusedVariables false
set_option linter.unusedSimpArgs false
def sig (j : Nat) : Nat := if j = 1 then 2 else j
theorem Pos.set {A : Nat → Option Addr} {L : Nat → List Int} {C : Nat → Nat} {W : World} {blk : Nat} (h : Pos A L C W blk 4) :
    Pos (fun j => A (sig j)) (fun j => L (sig j)) (fun j => C (sig j)) (W.setCell ⟨blk, 1, none⟩ (.slice (A 2) (L 2).length (C 2))) blk 4 := by
  have hother : ∀ a : Addr, a.block ≠ blk → (W.setCell ⟨blk, 1, none⟩ (.slice (A 2) (L 2).length (C 2))).cell? a = W.cell? a := fun a ha => World.cell?_of_block (Below.heap_setCell _ _ _ _ ha)
  refine ⟨fun j hj => ?_, fun j hj => ?_, fun j => ?_, fun j => h.caps _, fun j ad ha => h.apart _ ad ha⟩
  · by_cases h1 : j = 1
    · subst h1
      have := h.cell 1 (by omega)
      have h2 : (W.setCell ⟨blk, 1, none⟩ (.slice (A 2) (L 2).length (C 2))).cell? ⟨blk, 1, none⟩ = some (.slice (A 2) (L 2).length (C 2)) := by apply World.cell?_setCell_same; exact this
      exact h2
    · have h2 : (W.setCell ⟨blk, 1, none⟩ (.slice (A 2) (L 2).length (C 2))).cell? ⟨blk, j, none⟩ = W.cell? ⟨blk, j, none⟩ := by
        apply World.cell?_setCell_other
        intro e
        injection e with _ e _
        exact h1 e.symm
      rw [h2]
      simp only [sig, h1, if_false]
      exact h.cell j hj
  · rw [World.frozen?_setCell]; exact h.free j hj
  · exact C_moved (h.reads _) (fun ad ha hp j => hother _ (by rw [add_block]; exact h.apart _ ad ha))
set_option maxHeartbeats 8000000 in
set_option maxRecDepth 100000 in
theorem drop4 {A : Nat → Option Addr} {L : Nat → List Int} {C : Nat → Nat} {W : World} {blk : Nat} (cap : Nat) (hcap : 4 ≤ cap) (h : Pos A L C W blk 4) (h01 : L 1 = L 0) (h12 : (L 2).length ≠ (L 1).length) (h23 : L 3 = L 2) :
    Calls Tryd.prog 66 #[.slice (some ⟨blk, 0, none⟩) 4 cap, .func (.func 67) #[] #[]] W fun e w' => e = .returned (.slice (some ⟨blk, 0, none⟩) 2 cap) ∧ Aft W w' blk ∧ w'.cell? ⟨blk, 0, none⟩ = some (.slice (A 0) (L 0).length (C 0)) ∧ w'.cell? ⟨blk, 1, none⟩ = some (.slice (A 2) (L 2).length (C 2)) := by
  have H := Aside0.mk h
  have H01 := Aside0.mk h01
  have H12 := Aside0.mk h12
  have H23 := Aside0.mk h23
  have hcut : ∀ W', (Instr.slice 47 (.slice (some ⟨blk, 0, none⟩) 4 cap) (some (.int .i64 1)) none none).run Tryd.prog W' = .ok (.slice (some ⟨blk, 1, none⟩) 3 (cap - 1)) W' := fun W' => cut_at blk 4 cap 1 (by omega) (by omega) W'
  have hcut2 : ∀ W', (Instr.slice 47 (.slice (some ⟨blk, 0, none⟩) 4 cap) (some (.int .i64 2)) none none).run Tryd.prog W' = .ok (.slice (some ⟨blk, 2, none⟩) 2 (cap - 2)) W' := fun W' => cut_at blk 4 cap 2 (by omega) (by omega) W'
  have htake : ∀ W', (Instr.slice 47 (.slice (some ⟨blk, 0, none⟩) 4 cap) none (some (.int .i64 2)) none).run Tryd.prog W' = .ok (.slice (some ⟨blk, 0, none⟩) 2 cap) W' := fun W' => take_at blk 4 cap 2 (by omega) hcap W'
  have HCAP := Aside0.mk hcap
  clear h h01 h12 h23 hcap
  have e67 : ∀ args w, (callFunc 67 args).run Tryd.prog w = .ok (.enter 67 args) w := enters_of Tryd.func67 (by kernel_rfl) rfl
  go_enter Tryd.func66, Tryd.ntmps66
  go_wp2
  refine wp_loop_rounds 1 ?_
  rw [rounds_succ]
  have q0 := H.out.cell 0 (by omega)
  have q1 := H.out.cell 1 (by omega)
  have he := eq_q H.out 1 0 true (by rw [H01.out]; exact eq_true _)
  go_wp2
  go_quiet ((go_at_fn 67; exact he _))
  go_wp2
  clear he q0 q1
  obtain ⟨W2, hW2⟩ : ∃ W2, W2 = W.drewN nq := ⟨_, rfl⟩
  have hd2 : Drawn0 W W2 := ⟨⟨_, hW2⟩⟩
  have H2 := Aside0.mk (H.out.drawn hd2)
  have A2 := Aside0.mk ((Aft.refl W blk).drawn hd2)
  rw [← hW2]
  clear hW2 hd2
  go_loopw [5, 7] (fun v5 v7 wr => (v5 = .int .i64 1 ∧ v7 = .int .i64 1 ∧ Aside0 (Pos A L C wr blk 4 ∧ Aft W wr blk)) ∨ (v5 = .int .i64 2 ∧ (v7 = .int .i64 2 ∨ v7 = .int .i64 3) ∧ Aside0 (Pos (fun j => A (sig j)) (fun j => L (sig j)) (fun j => C (sig j)) wr blk 4 ∧ Aft W wr blk))) (fun _ v _ => 3 - (intOf v).toNat)
  case atStart => exact Or.inl ⟨rfl, rfl, ⟨H2.out, A2.out⟩⟩
  case round =>
    clear A2 H2
    rcases hrel with ⟨rfl, rfl, HP⟩ | ⟨rfl, hv7, HP⟩
    · have q1 := HP.out.1.cell 1 (by omega)
      have q2 := HP.out.1.cell 2 (by omega)
      have f1 := HP.out.1.free 1 (by omega)
      have he := eq_q HP.out.1 2 1 false (eq_false H12.out)
      go_wp2
      go_quiet ((go_at_fn 67; exact he _))
      go_wp2
      exact ⟨Or.inr ⟨rfl, Or.inl rfl, ⟨(HP.out.1.drawn ⟨⟨nq, rfl⟩⟩).set, (HP.out.2.drawn ⟨⟨nq, rfl⟩⟩).set 1 _⟩⟩, by simp [intOf]⟩
    · rcases hv7 with rfl | rfl
      · have q2 := HP.out.1.cell 2 (by omega)
        have q3 := HP.out.1.cell 3 (by omega)
        have he := eq_q HP.out.1 3 2 true (by show bytes_Equal.f (L 3) (L 2) = some true; rw [H23.out]; exact eq_true _)
        simp only [sig] at q2 q3 he
        go_wp2
        go_quiet ((go_at_fn 67; exact he _))
        go_wp2
        exact ⟨Or.inr ⟨rfl, Or.inr rfl, ⟨HP.out.1.drawn ⟨⟨nq, rfl⟩⟩, HP.out.2.drawn ⟨⟨nq, rfl⟩⟩⟩⟩, by simp [intOf]⟩
      · have hclr := fun ty => HP.out.1.clear 2 2 (cap - 2) (by omega) (by omega) ty
        have HCLR := Aside0.mk (HP.out.2.sets 2 (List.replicate 2 (.slice none 0 0)))
        have q0 : (wr.setCells blk 2 (List.replicate 2 (.slice none 0 0))).cell? ⟨blk, 0, none⟩ = some (.slice (A 0) (L 0).length (C 0)) := by
          rw [World.cell?_setCells_out blk _ 2 wr ⟨blk, 0, none⟩ (fun _ _ => Or.inl (show (0 : Nat) < 2 by decide))]; exact HP.out.1.cell 0 (by omega)
        have q1 : (wr.setCells blk 2 (List.replicate 2 (.slice none 0 0))).cell? ⟨blk, 1, none⟩ = some (.slice (A 2) (L 2).length (C 2)) := by
          rw [World.cell?_setCells_out blk _ 2 wr ⟨blk, 1, none⟩ (fun _ _ => Or.inl (show (1 : Nat) < 2 by decide))]; exact HP.out.1.cell 1 (by omega)
        have Q0 := Aside0.mk q0
        have Q1 := Aside0.mk q1
        clear q0 q1
        generalize wr.setCells blk 2 (List.replicate 2 (.slice none 0 0)) = W3 at hclr HCLR Q0 Q1
        go_wp2
        (try simp only [Exit.inBlock, Exit.then])
        go_ret
        exact ⟨rfl, HCLR.out, Q0.out, Q1.out⟩
end Go.Proofs.YtggpejjfgphihaaDoor.Given
end

section
namespace Go.Proofs.YtggpejjfgphihaaDoor.Given
open Go.RowKit Go.Proofs.YtggpejjfgphihaaDoorW.PrintWords Go.Proofs.YtggpejjfgphihaaDoorW.PrintLast Go.Proofs.YtggpejjfgphihaaDoorW.PrintMore
open Go.Proofs.YtggpejjfgphihaaDoor.H Go.Proofs.YtggpejjfgphihaaDoor.Pu Go.Shelf Go.Lib Go.Sort
set_option linter.unusedVariables false
set_option linter.unusedSimpArgs false
def idx (n i : Nat) : Nat := if i < n then i else 0
def rowAt (rows : List (List Int)) (i : Nat) : List Int := rows.getD (idx rows.length i) []
theorem open_qk {W : World} {B : Nat} {v5 : Value} {rows : List (List Int)} (h : qk.R 35 W B (fun _ => True) v5 rows) (hn : 0 < rows.length) :
    ∃ g cap, v5 = .slice (some ⟨g, 0, none⟩) rows.length cap ∧ rows.length ≤ cap ∧ B ≤ g ∧ g < W.heap.size ∧ (∀ j, W.frozen? ⟨g, j, none⟩ = false) ∧
      ∀ i : Nat, ∃ p : Option Addr × Nat, W.cell? ⟨g, idx rows.length i, none⟩ = some (.slice p.1 (rowAt rows i).length p.2) ∧ (rowAt rows i).length ≤ p.2 ∧ Kd.C (Kd.int .u8) W p.1 (rowAt rows i).length (rowAt rows i) ∧ ∀ ad, p.1 = some ad → ad.block ≠ g ∧ ad.block < W.heap.size := by
  obtain ⟨A, cap, hv, hcap, _⟩ := Kd.R_reads h
  obtain ⟨_, inner, ho, hrep⟩ := h
  obtain ⟨hlen, ho⟩ := ho
  rcases ho with ⟨hnil, hxs⟩ | ⟨g, cap', cur, hv', hg, hh, hrest⟩
  · rw [hnil] at hv
    injection hv with _ h2 _
    omega
  · obtain ⟨hnc, hcm, hsz, htake⟩ := hrest
    have hsz1 : qk.sz = 1 := rfl
    rw [hsz1, Nat.mul_one] at hsz htake hlen
    refine ⟨g, cap', hv', hnc, hg, blk_lt hh, fun j => blk_frozen hh j, fun i => ?_⟩
    have hi : idx rows.length i < rows.length := by unfold idx; split <;> omega
    have hrow : rows[idx rows.length i]? = some (rowAt rows i) := by
      unfold rowAt
      rw [List.getD_eq_getElem?_getD, List.getElem?_eq_getElem hi]; rfl
    obtain ⟨u, hu, hq⟩ := hrep.2 _ _ hrow
    rw [hsz1, Nat.mul_one] at hu
    have hcell : W.cell? ⟨g, idx rows.length i, none⟩ = some u := by
      rw [blk_cell hh]
      have hil : idx rows.length i < inner.length := by omega
      have h1 : inner[idx rows.length i]? = some u := by
        have h2 := congrArg (fun l : List Value => l[0]?) hu
        simpa [List.getElem?_take, List.getElem?_drop] using h2
      rw [← htake, List.getElem?_take] at h1
      rw [if_pos hi] at h1
      rw [← Array.getElem?_toList]
      exact h1
    obtain ⟨A1, c1, rfl, hl1, hC1⟩ := Kd.Q_reads hq
    refine ⟨(A1, c1), hcell, hl1, hC1, fun ad had => ?_⟩
    subst had
    have hb := (Kd.Q_bound hq).1 ad.block rfl
    refine ⟨fun e => ?_, hb.2.2.1⟩
    have := hb.1.2
    rw [hv', e] at this
    exact this rfl
theorem grownBy_sortedR {W : World} {g n m : Nat} {os : Array Obj} {enc : Nat → Value} (dk : Array Nat) : W.grownBy (sortWorld enc W g 0 m dk os) (some g) := by
  refine ⟨rfl, rfl, rfl, by simp [sortWorld, size_putRow], fun k hk hne => ?_⟩
  unfold sortWorld
  rw [heap_grow_old _ _ (by rw [size_putRow]; exact hk)]
  have : g ≠ k := fun e => hne (by rw [e])
  simp [putRow, mapBlock, Sort.ahead, Array.getElem?_modify, this]
theorem sorted_calls {W : World} {B : Nat} {v5 : Value} {rows : List (List Int)} (h : qk.R 35 W B (fun _ => True) v5 rows) (hn : rows.length = 1 ∨ rows.length = 2 ∨ rows.length = 3 ∨ rows.length = 4) :
    ∃ g cap, v5 = .slice (some ⟨g, 0, none⟩) rows.length cap ∧ rows.length ≤ cap ∧ B ≤ g ∧ Calls Tryd.prog 62 #[v5, .func (.func 63) #[] #[]] W fun e W' => e = .returned (.tuple #[]) ∧ W.grownBy W' (some g) ∧
      ((sortR (rowAt rows) rows.length).size = rows.length → ∃ A C, Pos A (fun j => rowAt rows (sortR (rowAt rows) rows.length)[j]!) C W' g rows.length) := by
  obtain ⟨g, cap, hv, hcap, hB, hlt, hfr, hrows⟩ := open_qk h (by omega)
  obtain ⟨p, hp⟩ := Classical.axiomOfChoice hrows
  have hR4 : Rows4 (fun i => (p i).1) (rowAt rows) (fun i => (p i).2) W g rows.length := by
    refine ⟨fun i => (hp i).2.2.1, fun i ad had => ⟨((hp i).2.2.2 ad had).1, fun _ => ((hp i).2.2.2 ad had).2⟩, fun j hj => ?_, hlt⟩
    rw [Array.size_range] at hj
    have hj2 : (Array.range rows.length)[j]! = j := by simp [hj]
    have hid : idx rows.length j = j := by unfold idx; rw [if_pos hj]
    rw [hj2, Nat.zero_add]
    refine ⟨?_, hfr j⟩
    have := (hp j).1
    rw [hid] at this
    exact this
  refine ⟨g, cap, hv, hcap, hB, ?_⟩
  rw [hv]
  refine (sortFunc_calls cap hR4 hn).mono fun e W' ⟨he, hS⟩ => ⟨he, ?_, fun hsz => ?_⟩
  · obtain ⟨m, os, rfl⟩ := hS
    exact grownBy_sortedR (n := 0) _
  · have R : Row1 (encR (fun i => (p i).1) (rowAt rows) (fun i => (p i).2)) W g 0 (Array.range rows.length) := ⟨one_cellR _ _ _, hR4.holds, hlt⟩
    have hs : (sortR (rowAt rows) rows.length).size = (Array.range rows.length).size := by rw [hsz, Array.size_range]
    refine ⟨fun j => (p (sortR (rowAt rows) rows.length)[j]!).1, fun j => (p (sortR (rowAt rows) rows.length)[j]!).2, fun j hj => ?_, fun j hj => ?_, fun j => ?_, fun j => (hp _).2.1, fun j ad had => ((hp _).2.2.2 ad had).1⟩
    · have := SW.c1 hS R hs j (by omega)
      rw [Nat.zero_add] at this
      exact this
    · have := SW.f1 hS R hs j (by omega)
      rw [Nat.zero_add] at this
      exact this
    · obtain ⟨m, os, rfl⟩ := hS
      exact C_moved ((hp _).2.2.1) (fun ad had hp0 i => sw_cell _ (by rw [add_block]; exact ((hp _).2.2.2 ad had).1) (by rw [add_block]; exact ((hp _).2.2.2 ad had).2))
theorem lt_len (L : Nat → List Int) (hb : ∀ i, (L i).length < 1000) (hL : ∀ i j, (L i).length = (L j).length → L i = L j) : ltOf (cfR L) = fun i j => decide ((L i).length < (L j).length) := by
  funext i j
  unfold ltOf cfR cmpV orV
  have h1 := hb i
  have h2 := hb j
  have hw : wrap64 (((L i).length : Int) - ((L j).length : Int)) = ((L i).length : Int) - ((L j).length : Int) := by unfold wrap64; omega
  rw [hw]
  by_cases h : (L i).length = (L j).length
  · rw [if_pos (by omega), hL i j h, cb_self]; simp
  · rw [if_neg (by omega)]
    rw [Bool.eq_iff_iff]; simp; omega
theorem pos_C {A : Nat → Option Addr} {L : Nat → List Int} {C : Nat → Nat} {W : World} {g m : Nat} (hc : ∀ j, j < m → W.cell? ⟨g, j, none⟩ = some (.slice (A j) (L j).length (C j))) (hr : ∀ j, Kd.C (Kd.int .u8) W (A j) (L j).length (L j)) (hk : ∀ j, (L j).length ≤ C j) (hm : m ≤ 100) (res : List (List Int)) (hres : res = (List.range m).map L) :
    Kd.C (Kd.slice 5 (Kd.int .u8)) W (some ⟨g, 0, none⟩) res.length res := by
  subst hres
  have hlen : ((List.range m).map L).length = m := by simp
  refine ⟨rfl, by rw [hlen]; omega, fun _ => ⟨_, rfl, fun j p hj => ?_⟩⟩
  have hjm : j < m := by
    have := (List.getElem?_eq_some_iff.1 hj).1
    rw [hlen] at this; exact this
  have hp : L j = p := by simpa [hjm] using hj
  subst hp
  refine ⟨[.slice (A j) (L j).length (C j)], rfl, ⟨A j, C j, rfl, hk j, hr j⟩, fun i u hu => ?_⟩
  match i, hu with
  | 0, hu =>
    rw [add_plain]
    have := hc j hjm
    rw [show j * (Kd.slice 5 (Kd.int .u8)).sz + 0 = j from Nat.mul_one j, this]
    exact hu
  | i + 1, hu => exact absurd hu (by simp)
def PostAll (res : List (List Int)) (w : World) (e : Ending) (W2 : World) : Prop := ∃ (A : Option Addr) (c : Nat), e = .returned (.slice A res.length c) ∧ res.length ≤ c ∧ Kd.C (Kd.slice 5 (Kd.int .u8)) W2 A res.length res ∧ Below w.heap.size w W2
theorem eval2 : insertionSort (fun i j => decide ([4, 3].getD (idx 2 i) 0 < [4, 3].getD (idx 2 j) 0)) (Array.range 2) 0 2 = #[1, 0] := by decide +kernel
theorem eval4 : insertionSort (fun i j => decide ([2, 1, 4, 3].getD (idx 4 i) 0 < [2, 1, 4, 3].getD (idx 4 j) 0)) (Array.range 4) 0 4 = #[1, 0, 3, 2] := by decide +kernel
theorem eval6 : insertionSort (fun i j => decide ([2, 2, 4, 4].getD (idx 4 i) 0 < [2, 2, 4, 4].getD (idx 4 j) 0)) (Array.range 4) 0 4 = #[0, 1, 2, 3] := by decide +kernel
def Comp (rows res : List (List Int)) (dk : Array Nat) (g n cap : Nat) (A : Nat → Option Addr) (C : Nat → Nat) (W' : World) (e : Ending) (W2 : World) : Prop :=
  e = .returned (.slice (some ⟨g, 0, none⟩) res.length cap) ∧ res.length ≤ n ∧ Aft W' W2 g ∧ ∃ τ : Nat → Nat, (∀ j, j < res.length → W2.cell? ⟨g, j, none⟩ = some (.slice (A (τ j)) (rowAt rows dk[τ j]!).length (C (τ j)))) ∧ res = (List.range res.length).map (fun j => rowAt rows dk[τ j]!)
def Goal62 (res : List (List Int)) (w W : World) (v5 : Value) : Prop :=
  Calls Tryd.prog 62 #[v5, .func (.func 63) #[] #[]] W fun e W' => e = .returned (.tuple #[]) ∧ Calls Tryd.prog 66 #[v5, .func (.func 67) #[] #[]] W' fun e W2 => ∃ r, e = .returned r ∧ PostAll res w e W2
theorem fin_all (rows res : List (List Int)) (dk : Array Nat) (hn : rows.length = 1 ∨ rows.length = 2 ∨ rows.length = 3 ∨ rows.length = 4) (hdk : sortR (rowAt rows) rows.length = dk) (hsz : dk.size = rows.length)
    (hcomp : ∀ (W' : World) (g cap : Nat) (A : Nat → Option Addr) (C : Nat → Nat), rows.length ≤ cap → Pos A (fun j => rowAt rows dk[j]!) C W' g rows.length → Calls Tryd.prog 66 #[.slice (some ⟨g, 0, none⟩) rows.length cap, .func (.func 67) #[] #[]] W' (Comp rows res dk g rows.length cap A C W'))
    {w W : World} {v5 : Value} (HB : Below w.heap.size w W) (HR : qk.R 35 W w.heap.size (fun _ => True) v5 rows) : Goal62 res w W v5 := by
  obtain ⟨g, cap, hv, hcap, hg, hc⟩ := sorted_calls HR hn
  refine hc.mono fun e W' ⟨he, hgr, hpos⟩ => ⟨he, ?_⟩
  rw [hdk] at hpos
  obtain ⟨A, C, hP⟩ := hpos hsz
  have hB' : Below w.heap.size w W' := HB.grown hgr HB.size (fun k hk => by cases hk; exact hg)
  rw [hv]
  refine (hcomp W' g cap A C hcap hP).mono fun e2 W2 ⟨he2, hle, haft, τ, hcell, hres⟩ => ⟨_, he2, some ⟨g, 0, none⟩, cap, he2, by omega, ?_, haft.below _ _ hg hB'⟩
  refine pos_C (A := fun j => A (τ j)) (L := fun j => rowAt rows dk[τ j]!) (C := fun j => C (τ j)) hcell (fun j => ?_) (fun j => hP.caps _) (by omega) res hres
  exact C_moved (hP.reads (τ j)) (fun ad had hp i => haft.cell _ (by rw [add_block]; exact hP.apart _ ad had))
theorem keep_comp {rows res : List (List Int)} {dk : Array Nat} {g n cap : Nat} {A : Nat → Option Addr} {C : Nat → Nat} {W' : World} (hres : res.length = n) (hr2 : res = (List.range n).map (fun j => rowAt rows dk[j]!)) (hP : Pos A (fun j => rowAt rows dk[j]!) C W' g n)
    (h : Calls Tryd.prog 66 #[.slice (some ⟨g, 0, none⟩) n cap, .func (.func 67) #[] #[]] W' fun e w' => e = .returned (.slice (some ⟨g, 0, none⟩) n cap) ∧ Drawn0 W' w') :
    Calls Tryd.prog 66 #[.slice (some ⟨g, 0, none⟩) n cap, .func (.func 67) #[] #[]] W' (Comp rows res dk g n cap A C W') :=
  h.mono fun e W2 ⟨he, hd⟩ => ⟨by rw [hres]; exact he, by omega, (Aft.refl W' g).drawn hd, fun j => j, fun j hj => (hP.drawn hd).cell j (by omega), by rw [hres]; exact hr2⟩
theorem sortR_eq (rows : List (List Int)) (ls : List Nat) (hls : ∀ k, k < rows.length → (rows.getD k []).length = ls.getD k 0) (hpos : 0 < rows.length) (hb : ∀ k, ls.getD k 0 < 1000) (hsame : ∀ k l, k < rows.length → l < rows.length → (rows.getD k []).length = (rows.getD l []).length → rows.getD k [] = rows.getD l []) :
    sortR (rowAt rows) rows.length = insertionSort (fun i j => decide (ls.getD (idx rows.length i) 0 < ls.getD (idx rows.length j) 0)) (Array.range rows.length) 0 rows.length := by
  have hi : ∀ i, idx rows.length i < rows.length := fun i => by unfold idx; split <;> omega
  have hlen : ∀ i, (rowAt rows i).length = ls.getD (idx rows.length i) 0 := fun i => hls _ (hi i)
  unfold sortR
  rw [lt_len (rowAt rows) (fun i => by rw [hlen]; exact hb _) (fun i j h => hsame _ _ (hi i) (hi j) h)]
  congr 1
  funext i j
  rw [hlen, hlen]
theorem shape1 (r : List Int) (hr : r.length = 4) {w W : World} {v5 : Value} (HB : Below w.heap.size w W) (HR : qk.R 35 W w.heap.size (fun _ => True) v5 [r]) : Goal62 [r] w W v5 := by
  have e1 : insertionSort (fun i j => decide ([4].getD (idx 1 i) 0 < [4].getD (idx 1 j) 0)) (Array.range 1) 0 1 = #[0] := by decide +kernel
  have hs := sortR_eq [r] [4] (fun k hk => by obtain rfl : k = 0 := by simpa using hk
                                              simpa using hr) (by simp) (fun k => by match k with | 0 => simp | k + 1 => simp) (fun k l hk hl _ => by
    obtain rfl : k = 0 := by simpa using hk
    obtain rfl : l = 0 := by simpa using hl
    rfl)
  refine fin_all [r] [r] #[0] (Or.inl rfl) (hs.trans e1) rfl (fun W' g cap A C hcap hP => ?_) HB HR
  exact keep_comp rfl rfl hP (keep1 cap)
theorem two_cases {k : Nat} (h : k < 2) : k = 0 ∨ k = 1 := by omega
theorem four_cases {k : Nat} (h : k < 4) : k = 0 ∨ k = 1 ∨ k = 2 ∨ k = 3 := by omega
theorem small2 (a b : Nat) (ha : a < 1000) (hb : b < 1000) : ∀ k, [a, b].getD k 0 < 1000 := fun k => by match k with | 0 => simpa using ha | 1 => simpa using hb | k + 2 => simp
theorem small4 (a b c d : Nat) (ha : a < 1000) (hb : b < 1000) (hc : c < 1000) (hd : d < 1000) : ∀ k, [a, b, c, d].getD k 0 < 1000 := fun k => by match k with | 0 => simpa using ha | 1 => simpa using hb | 2 => simpa using hc | 3 => simpa using hd | k + 4 => simp
theorem shape2 (x4 x3 : List Int) (h4 : x4.length = 4) (h3 : x3.length = 3) {w W : World} {v5 : Value} (HB : Below w.heap.size w W) (HR : qk.R 35 W w.heap.size (fun _ => True) v5 [x4, x3]) : Goal62 [x3, x4] w W v5 := by
  have hs := sortR_eq [x4, x3] [4, 3] (fun k hk => by rcases two_cases hk with rfl | rfl <;> simp [h4, h3]) (by simp) (small2 4 3 (by decide) (by decide)) (fun k l hk hl h => by
    rcases two_cases hk with rfl | rfl <;> rcases two_cases hl with rfl | rfl <;> simp [h4, h3] at h ⊢)
  refine fin_all [x4, x3] [x3, x4] #[1, 0] (Or.inr (Or.inl rfl)) (hs.trans eval2) rfl (fun W' g cap A C hcap hP => ?_) HB HR
  exact keep_comp rfl rfl hP (keep2 cap hP (by show x4.length ≠ x3.length; omega))
theorem shape4 (y x : List Int) (h2 : y.length = 2) (h4 : x.length = 4) {w W : World} {v5 : Value} (HB : Below w.heap.size w W) (HR : qk.R 35 W w.heap.size (fun _ => True) v5 [y, x]) : Goal62 [y, x] w W v5 := by
  have e4 : insertionSort (fun i j => decide ([2, 4].getD (idx 2 i) 0 < [2, 4].getD (idx 2 j) 0)) (Array.range 2) 0 2 = #[0, 1] := by decide +kernel
  have hs := sortR_eq [y, x] [2, 4] (fun k hk => by rcases two_cases hk with rfl | rfl <;> simp [h4, h2]) (by simp) (small2 2 4 (by decide) (by decide)) (fun k l hk hl h => by
    rcases two_cases hk with rfl | rfl <;> rcases two_cases hl with rfl | rfl <;> simp [h4, h2] at h ⊢)
  refine fin_all [y, x] [y, x] #[0, 1] (Or.inr (Or.inl rfl)) (hs.trans e4) rfl (fun W' g cap A C hcap hP => ?_) HB HR
  exact keep_comp rfl rfl hP (keep2 cap hP (by show x.length ≠ y.length; omega))
theorem shape3 (x : List Int) (h4 : x.length = 4) {w W : World} {v5 : Value} (HB : Below w.heap.size w W) (HR : qk.R 35 W w.heap.size (fun _ => True) v5 [x, x]) : Goal62 [x] w W v5 := by
  have e4 : insertionSort (fun i j => decide ([4, 4].getD (idx 2 i) 0 < [4, 4].getD (idx 2 j) 0)) (Array.range 2) 0 2 = #[0, 1] := by decide +kernel
  have hs := sortR_eq [x, x] [4, 4] (fun k hk => by rcases two_cases hk with rfl | rfl <;> simp [h4]) (by simp) (small2 4 4 (by decide) (by decide)) (fun k l hk hl h => by
    rcases two_cases hk with rfl | rfl <;> rcases two_cases hl with rfl | rfl <;> rfl)
  refine fin_all [x, x] [x] #[0, 1] (Or.inr (Or.inl rfl)) (hs.trans e4) rfl (fun W' g cap A C hcap hP => ?_) HB HR
  exact (drop2 cap hcap hP rfl).mono fun e W2 ⟨he, ha, hc⟩ => ⟨he, by simp, ha, fun j => j, fun j hj => by obtain rfl : j = 0 := by simpa using hj
                                                                                                           exact hc, rfl⟩
theorem shape5 (y2 y1 x4 x3 : List Int) (h2 : y2.length = 2) (h1 : y1.length = 1) (h4 : x4.length = 4) (h3 : x3.length = 3) {w W : World} {v5 : Value} (HB : Below w.heap.size w W) (HR : qk.R 35 W w.heap.size (fun _ => True) v5 [y2, y1, x4, x3]) : Goal62 [y1, y2, x3, x4] w W v5 := by
  have hs := sortR_eq [y2, y1, x4, x3] [2, 1, 4, 3] (fun k hk => by rcases four_cases hk with rfl | rfl | rfl | rfl <;> simp [h1, h2, h3, h4]) (by simp) (small4 2 1 4 3 (by decide) (by decide) (by decide) (by decide)) (fun k l hk hl h => by
    rcases four_cases hk with rfl | rfl | rfl | rfl <;> rcases four_cases hl with rfl | rfl | rfl | rfl <;> simp [h1, h2, h3, h4] at h ⊢)
  refine fin_all [y2, y1, x4, x3] [y1, y2, x3, x4] #[1, 0, 3, 2] (Or.inr (Or.inr (Or.inr rfl))) (hs.trans eval4) rfl (fun W' g cap A C hcap hP => ?_) HB HR
  exact keep_comp rfl rfl hP (keep4 cap hP (by show y2.length ≠ y1.length; omega) (by show x3.length ≠ y2.length; omega) (by show x4.length ≠ x3.length; omega))
theorem shape6 (y x : List Int) (h2 : y.length = 2) (h4 : x.length = 4) {w W : World} {v5 : Value} (HB : Below w.heap.size w W) (HR : qk.R 35 W w.heap.size (fun _ => True) v5 [y, y, x, x]) : Goal62 [y, x] w W v5 := by
  have hs := sortR_eq [y, y, x, x] [2, 2, 4, 4] (fun k hk => by rcases four_cases hk with rfl | rfl | rfl | rfl <;> simp [h2, h4]) (by simp) (small4 2 2 4 4 (by decide) (by decide) (by decide) (by decide)) (fun k l hk hl h => by
    rcases four_cases hk with rfl | rfl | rfl | rfl <;> rcases four_cases hl with rfl | rfl | rfl | rfl <;> first | rfl | (simp [h2, h4] at h))
  refine fin_all [y, y, x, x] [y, x] #[0, 1, 2, 3] (Or.inr (Or.inr (Or.inr rfl))) (hs.trans eval6) rfl (fun W' g cap A C hcap hP => ?_) HB HR
  exact (drop4 cap hcap hP rfl (by show x.length ≠ y.length; omega) rfl).mono fun e W2 ⟨he, ha, hc0, hc1⟩ => ⟨he, by simp, ha, fun j => if j = 1 then 2 else j, fun j hj => by
    rcases two_cases (show j < 2 by simpa using hj) with rfl | rfl
    · exact hc0
    · exact hc1, rfl⟩
end Go.Proofs.YtggpejjfgphihaaDoor.Given
end

section
namespace Go.Proofs.YtggpejjfgphihaaDoor.Given
open Go.RowKit Go.Proofs.YtggpejjfgphihaaDoorW.PrintWords
open Go.Proofs.YtggpejjfgphihaaDoor.Pu
set_option linter.unusedVariables false
set_option linter.unusedSimpArgs false
def allN (a f : Bool) (P : Nat) : List (List Nat) := (if (a && (f && decide (P < 256))) = true then [numN P true] else []) ++ ((if a = true then [numN P false] else []) ++ ((if (f && decide (P < 256)) = true then [255 :: 3 :: numN P true] else []) ++ [255 :: 3 :: numN P false]))
theorem cand_big (ad : Bool) (P : Nat) (h : ¬ P < 256) : cand ad true P = cand ad false P := by simp [cand, numN, h]
theorem all_calls (a0 a1 a f : Bool) (a4 a5 a6 : Int) (P : Nat) (hP : P < 65536) (hr : right P = true) (w : World) (hgH : GH w) :
    Calls Tryd.prog 35 #[.agg #[.bool a0, .bool a1, .bool a, .bool f, .int .u32 a4, .int .u32 a5, .int .i64 a6], .int .u16 (P : Int)] w (PostAll ((allN a f P).map ofN) w) := by
  refine all_walk a0 a1 a f a4 a5 a6 P hP hr w hgH (fun w e W2 => PostAll ((allN a f P).map ofN) w e W2) (fun W v5 HB HR => ?_)
  show Goal62 ((allN a f P).map ofN) w W v5
  have l40 : (ofN (cand true false P)).length = 4 := by rw [ofN_length]; simp [cand, numN]
  have l20 : (ofN (cand false false P)).length = 2 := by rw [ofN_length]; simp [cand, numN]
  have c40 : (255 :: 3 :: numN P false) = cand true false P := rfl
  have c20 : numN P false = cand false false P := rfl
  have c41 : (255 :: 3 :: numN P true) = cand true true P := rfl
  have c21 : numN P true = cand false true P := rfl
  by_cases h : P < 256
  · have l31 : (ofN (cand true true P)).length = 3 := by rw [ofN_length]; simp [cand, numN, h]
    have l11 : (ofN (cand false true P)).length = 1 := by rw [ofN_length]; simp [cand, numN, h]
    cases a <;> cases f
    · have e : rowsAt false false P 4 = [ofN (cand true false P)] := by simp [rowsAt, stepR, gd, h]
      have r : (allN false false P).map ofN = [ofN (cand true false P)] := by simp [allN, c40]
      rw [e] at HR; rw [r]; exact shape1 _ l40 HB HR
    · have e : rowsAt false true P 4 = [ofN (cand true false P), ofN (cand true true P)] := by simp [rowsAt, stepR, gd, h]
      have r : (allN false true P).map ofN = [ofN (cand true true P), ofN (cand true false P)] := by simp [allN, c40, c41, h]
      rw [e] at HR; rw [r]; exact shape2 _ _ l40 l31 HB HR
    · have e : rowsAt true false P 4 = [ofN (cand false false P), ofN (cand true false P)] := by simp [rowsAt, stepR, gd, h]
      have r : (allN true false P).map ofN = [ofN (cand false false P), ofN (cand true false P)] := by unfold allN; rw [c40, c20]; simp
      rw [e] at HR; rw [r]; exact shape4 _ _ l20 l40 HB HR
    · have e : rowsAt true true P 4 = [ofN (cand false false P), ofN (cand false true P), ofN (cand true false P), ofN (cand true true P)] := by simp [rowsAt, stepR, gd, h]
      have r : (allN true true P).map ofN = [ofN (cand false true P), ofN (cand false false P), ofN (cand true true P), ofN (cand true false P)] := by unfold allN; rw [c40, c41, c20, c21]; simp [h]
      rw [e] at HR; rw [r]; exact shape5 _ _ _ _ l20 l11 l40 l31 HB HR
  · have hc := cand_big true P h
    have hc2 := cand_big false P h
    cases a
    · have e : rowsAt false f P 4 = [ofN (cand true false P), ofN (cand true false P)] := by simp [rowsAt, stepR, gd, h, hc]
      have r : (allN false f P).map ofN = [ofN (cand true false P)] := by simp [allN, c40, h]
      rw [e] at HR; rw [r]; exact shape3 _ l40 HB HR
    · have e : rowsAt true f P 4 = [ofN (cand false false P), ofN (cand false false P), ofN (cand true false P), ofN (cand true false P)] := by simp [rowsAt, stepR, gd, h, hc, hc2]
      have r : (allN true f P).map ofN = [ofN (cand false false P), ofN (cand true false P)] := by unfold allN; rw [c40, c20]; simp [h]
      rw [e] at HR; rw [r]; exact shape6 _ _ l20 l40 HB HR
end Go.Proofs.YtggpejjfgphihaaDoor.Given
end

section
namespace Go.Proofs.YtggpejjfgphihaaDoor.Pu
open Go.Proofs.YtggpejjfgphihaaDoor.Given Go.Proofs.YtggpejjfgphihaaDoor.H Go.Proofs.YtggpejjfgphihaaDoor.D Go.RowKit Go.Proofs.YtggpejjfgphihaaDoorW.PrintWords
set_option linter.unusedVariables false
set_option linter.unusedSimpArgs false
theorem allN_len (a f : Bool) (p : Nat) : 1 ≤ (allN a f p).length ∧ (allN a f p).length ≤ 4 := by
  unfold allN
  repeat' split
  all_goals simp
theorem allN_each (a f : Bool) (p : Nat) (hp : p < 65536) : ∀ X ∈ allN a f p, (∀ x ∈ X, x < 256) ∧ 1 ≤ X.length ∧ X.length ≤ 4 := by
  have l1 := numN_len p true
  have l0 := numN_len p false
  have t1 := numN_lt p true hp
  have t0 := numN_lt p false hp
  have c1 : (∀ x ∈ numN p true, x < 256) ∧ 1 ≤ (numN p true).length ∧ (numN p true).length ≤ 4 := ⟨t1, by omega, by omega⟩
  have c0 : (∀ x ∈ numN p false, x < 256) ∧ 1 ≤ (numN p false).length ∧ (numN p false).length ≤ 4 := ⟨t0, by omega, by omega⟩
  have d1 : (∀ x ∈ (255 :: 3 :: numN p true), x < 256) ∧ 1 ≤ (255 :: 3 :: numN p true).length ∧ (255 :: 3 :: numN p true).length ≤ 4 := by
    refine ⟨?_, by simp, by simp; omega⟩
    intro x hx
    simp only [List.mem_cons] at hx
    rcases hx with rfl | rfl | hx
    · omega
    · omega
    · exact t1 x hx
  have d0 : (∀ x ∈ (255 :: 3 :: numN p false), x < 256) ∧ 1 ≤ (255 :: 3 :: numN p false).length ∧ (255 :: 3 :: numN p false).length ≤ 4 := by
    refine ⟨?_, by simp, by simp; omega⟩
    intro x hx
    simp only [List.mem_cons] at hx
    rcases hx with rfl | rfl | hx
    · omega
    · omega
    · exact t0 x hx
  have one : ∀ (c : Bool) (Y X : List Nat), X ∈ (if c = true then [Y] else []) → X = Y := by
    intro c Y X h
    cases c <;> simp at h
    exact h
  intro X hX
  unfold allN at hX
  rw [List.mem_append, List.mem_append, List.mem_append] at hX
  rcases hX with h | h | h | h
  · rw [one _ _ _ h]; exact c1
  · rw [one _ _ _ h]; exact c0
  · rw [one _ _ _ h]; exact d1
  · rw [List.mem_singleton.1 h]; exact d0
def allI (a f : Bool) (x : Int) : List (List Int) := (allN a f x.toNat).map ofN
theorem all_at (a0 a1 a f : Bool) (a4 a5 a6 : Int) (x : Int) (h : 0 ≤ x ∧ x < 65536 ∧ right x.toNat = true) :
    ∀ W, GH W → Calls Tryd.prog 35 #[.agg #[.bool a0,.bool a1,.bool a,.bool f,.int .u32 a4,.int .u32 a5,.int .i64 a6], .int .u16 x] W (PostAll (allI a f x) W) := by
  obtain ⟨P, rfl⟩ := Int.eq_ofNat_of_zero_le h.1
  exact fun W hW => all_calls a0 a1 a f a4 a5 a6 P (by omega) h.2.2 W hW
theorem right_at (x : Int) (hx : 0 ≤ x ∧ x < 65536) (hr : marlineref09_Right.f (wrap64 x) = some true) : 0 ≤ x ∧ x < 65536 ∧ right x.toNat = true := by
  obtain ⟨P, rfl⟩ := Int.eq_ofNat_of_zero_le hx.1
  refine ⟨hx.1, hx.2, ?_⟩
  rw [w64 P (by omega), r_Right P (by omega)] at hr
  exact Option.some.inj hr
end Go.Proofs.YtggpejjfgphihaaDoor.Pu
end

section
namespace Go.Proofs.YtggpejjfgphihaaDoor.Pu
open Go.RowKit Go.Proofs.YtggpejjfgphihaaDoorW.PrintWords Go.Proofs.YtggpejjfgphihaaDoorW.PrintLast Go.Proofs.YtggpejjfgphihaaDoorW.PrintMore
open Go.Proofs.YtggpejjfgphihaaDoor.Given Go.Proofs.YtggpejjfgphihaaDoor.D Go.Proofs.YtggpejjfgphihaaDoor.H Go.Proofs.YtggpejjfgphihaaDoor.B
set_option linter.unusedVariables false
set_option linter.unusedSimpArgs false
theorem bytes_ofH {l : List Int} (h : l.all okByte = true) : ∀ x ∈ l.map Int.toNat, x < 256 := by
  intro x hx
  rw [List.mem_map] at hx
  obtain ⟨y, hy, rfl⟩ := hx
  have := (List.all_eq_true.1 h) y hy
  simp only [okByte, Bool.and_eq_true, decide_eq_true_eq] at this
  omega
theorem getN_num_lt (l : List Nat) (hl : ∀ x ∈ l, x < 256) (s : Bool) : (getN l s).1 < 65536 := by
  unfold getN
  split
  · simp
  · rename_i c l
    have hc := hl c (by simp)
    split
    · split
      · simp
      · rename_i d l
        have hd := hl d (by simp)
        split <;> simp <;> omega
    · split <;> simp <;> omega
theorem getHead_num_lt (acfc pfc : Bool) (l : List Nat) (hl : ∀ x ∈ l, x < 256) : (getHead acfc pfc l).1 < 65536 := by
  unfold getHead
  split
  · simp
  · have h := getN_num_lt (if begins l = true then l.drop 2 else l) (by split; exact fun x hx => hl x (List.mem_of_mem_drop hx); exact hl) pfc
    have key : ∀ t : Nat × Nat × Nat, t.1 < 65536 → ∀ n, (if t.2.2 = 0 then (t.1, n + t.2.1, 0) else ((0, 0, 7) : Nat × Nat × Nat)).1 < 65536 := by
      intro t ht n
      split
      · exact ht
      · simp
    exact key _ h _
theorem headN_size (a b : Bool) (p : Nat) : (headN a b p).length ≤ 4 := by
  unfold headN
  have h1 := numN_len p b
  have h2 := numN_len p (b && decide (p ≠ 49185))
  split
  · omega
  · simp only [List.length_cons]; omega
end Go.Proofs.YtggpejjfgphihaaDoor.Pu
end

section
namespace Go.Proofs.YtggpejjfgphihaaDoor.C
open Go.Proofs.YtggpejjfgphihaaDoor.Given Go.RowKit Go.Proofs.YtggpejjfgphihaaDoorW.PrintWords Go.Proofs.YtggpejjfgphihaaDoorW.PrintLast Go.Proofs.YtggpejjfgphihaaDoorW.PrintMore
attribute [local go_sem] max2_int min2_int max_two min_two max_three min_three max_four min_four
set_option linter.unusedVariables false
set_option linter.unusedSimpArgs false
def errW : Option Int → Value
  | none => .nilIface
  | some c => .iface 0 (.int .i64 c)
theorem errW_none : errW none = .nilIface := rfl
theorem errW_some (c : Int) : errW (some c) = .iface 0 (.int .i64 c) := rfl
theorem info5 : (Tryd.prog.info? 5).map (fun i => (i.zero, i.size, i.bytes)) = some (some (.int .u8 0), 1, 1) := by kernel_rfl
end Go.Proofs.YtggpejjfgphihaaDoor.C
end

section
namespace Go.Proofs.YtggpejjfgphihaaDoor.E
open Go.Proofs.YtggpejjfgphihaaDoor.Given Go.Proofs.YtggpejjfgphihaaDoor.D Go.Proofs.YtggpejjfgphihaaDoor.H Go.RowKit Go.Proofs.YtggpejjfgphihaaDoorW.PrintWords Go.Proofs.YtggpejjfgphihaaDoorW.PrintLast Go.Proofs.YtggpejjfgphihaaDoorW.PrintMore
attribute [local go_sem] max2_int min2_int max_two min_two max_three min_three max_four min_four
set_option linter.unusedVariables false
set_option linter.unusedSimpArgs false
def errW : Option Int → Value
  | none => .nilIface
  | some c => .iface 0 (.int .i64 c)
theorem errW_none : errW none = .nilIface := rfl
theorem errW_some (c : Int) : errW (some c) = .iface 0 (.int .i64 c) := rfl
theorem info5 : (Tryd.prog.info? 5).map (fun i => (i.zero, i.size, i.bytes)) = some (some (.int .u8 0), 1, 1) := by kernel_rfl
end Go.Proofs.YtggpejjfgphihaaDoor.E
end

section
namespace Go.Proofs.YtggpejjfgphihaaDoor.Pu
open Go.RowKit Go.Proofs.YtggpejjfgphihaaDoorW.PrintWords Go.Proofs.YtggpejjfgphihaaDoorW.PrintLast Go.Proofs.YtggpejjfgphihaaDoorW.PrintMore
open Go.Proofs.YtggpejjfgphihaaDoor.Given Go.Proofs.YtggpejjfgphihaaDoor.D Go.Proofs.YtggpejjfgphihaaDoor.H Go.Proofs.YtggpejjfgphihaaDoor.E
set_option linter.unusedVariables false
set_option linter.unusedSimpArgs false
theorem getHead_le (acfc pfc : Bool) (l : List Nat) (h : (getHead acfc pfc l).2.2 = 0) : (getHead acfc pfc l).2.1 ≤ l.length := by
  have hg : ∀ (l : List Nat) (s : Bool), (getN l s).2.2 = 0 → (getN l s).2.1 ≤ l.length := by
    intro l s h
    unfold getN at h ⊢
    match l with
    | [] => simp at h
    | [c] =>
      simp only at h ⊢
      split at h
      · simp at h
      · split at h
        · rename_i h1 h2; simp [h1, h2]
        · simp at h
    | c :: d :: l =>
      simp only at h ⊢
      split at h
      · split at h
        · rename_i h1 h2; simp [h1, h2]
        · simp at h
      · split at h
        · rename_i h1 h2; simp [h1, h2]
        · simp at h
  unfold getHead at h ⊢
  by_cases h1 : begins l = false ∧ acfc = false
  · rw [if_pos h1] at h; simp at h
  rw [if_neg h1] at h ⊢
  obtain ⟨t, ht⟩ : ∃ t, t = getN (if begins l = true then l.drop 2 else l) pfc := ⟨_, rfl⟩
  simp only [← ht] at h ⊢
  by_cases h2 : t.2.2 = 0
  · rw [if_pos h2]
    have h3 := hg (if begins l = true then l.drop 2 else l) pfc (by rw [← ht]; exact h2)
    rw [← ht] at h3
    by_cases hb : begins l = true
    · simp only [hb, if_true, List.length_drop] at h3 ⊢
      have hl : 2 ≤ l.length := by
        unfold begins at hb
        split at hb
        · simp
        · simp at hb
      omega
    · simp only [hb, if_false, Bool.false_eq_true] at h3 ⊢
      omega
  · rw [if_neg h2] at h; simp at h
end Go.Proofs.YtggpejjfgphihaaDoor.Pu
end

section
namespace Go.Proofs.YtggpejjfgphihaaDoor.Pu
open Go.RowKit Go.Proofs.YtggpejjfgphihaaDoorW.PrintWords Go.Proofs.YtggpejjfgphihaaDoorW.PrintLast Go.Proofs.YtggpejjfgphihaaDoorW.PrintMore
open Go.Proofs.YtggpejjfgphihaaDoor.Given Go.Proofs.YtggpejjfgphihaaDoor.D Go.Proofs.YtggpejjfgphihaaDoor.H Go.Proofs.YtggpejjfgphihaaDoor.E
set_option linter.unusedVariables false
set_option linter.unusedSimpArgs false
theorem getN_out (l : List Nat) (hl : ∀ x ∈ l, x < 256) (s : Bool) : (getN l s).2.2 ≠ 6 ∧ ((getN l s).2.2 = 0 → right (getN l s).1 = true ∧ (getN l s).1 < 65536 ∧ (getN l s).2.1 ≤ l.length ∧ (numN (getN l s).1 s).length ≤ (getN l s).2.1) := by
  unfold getN
  match l, hl with
  | [], _ => simp
  | [c], hl =>
    have hc := hl c List.mem_cons_self
    simp only
    split
    · simp
    · split
      · rename_i h1 h2
        obtain ⟨h2, h3⟩ := h2
        refine ⟨by simp, fun _ => ⟨h2, by simp only; omega, by simp, by simp [numN, h3, hc]⟩⟩
      · simp
  | c :: d :: l, hl =>
    have hc := hl c List.mem_cons_self
    have hd := hl d (List.mem_cons_of_mem _ List.mem_cons_self)
    simp only
    split
    · split
      · rename_i h1 h2
        refine ⟨by simp, fun _ => ⟨h2, by simp only; omega, by simp, (numN_len _ _).2⟩⟩
      · simp
    · split
      · rename_i h1 h2
        obtain ⟨h2, h3⟩ := h2
        refine ⟨by simp, fun _ => ⟨h2, by simp only; omega, by simp, by simp [numN, h3, hc]⟩⟩
      · simp
theorem getHead_out (acfc pfc : Bool) (l : List Nat) (hl : ∀ x ∈ l, x < 256) : (getHead acfc pfc l).2.2 ≠ 6 ∧ ((getHead acfc pfc l).2.2 = 0 → right (getHead acfc pfc l).1 = true ∧ (getHead acfc pfc l).1 < 65536 ∧ (getHead acfc pfc l).2.1 ≤ l.length ∧ ((headN acfc pfc (getHead acfc pfc l).1).length ≤ (getHead acfc pfc l).2.1 ∨ (getHead acfc pfc l).1 = 49185)) := by
  have hle := getHead_le acfc pfc l
  unfold getHead at hle ⊢
  by_cases h1 : begins l = false ∧ acfc = false
  · rw [if_pos h1]; simp
  rw [if_neg h1] at hle ⊢
  have hl2 : ∀ x ∈ (if begins l = true then l.drop 2 else l), x < 256 := by
    intro x hx
    split at hx
    · exact hl x (List.mem_of_mem_drop hx)
    · exact hl x hx
  have ho := (getN_out _ hl2 pfc).2
  obtain ⟨t, ht⟩ : ∃ t, t = getN (if begins l = true then l.drop 2 else l) pfc := ⟨_, rfl⟩
  simp only [← ht] at hle ho ⊢
  by_cases h2 : t.2.2 = 0
  · rw [if_pos h2] at hle ⊢
    refine ⟨by simp, fun _ => ?_⟩
    obtain ⟨o1, o2, o3, o4⟩ := ho h2
    refine ⟨o1, o2, hle rfl, ?_⟩
    by_cases hL : t.1 = 49185
    · exact Or.inr hL
    refine Or.inl ?_
    unfold headN
    by_cases hb : begins l = true
    · simp only [hb, if_true]
      split
      · omega
      · simp only [hL, ne_eq, not_false_eq_true, decide_true, Bool.and_true, List.length_cons]; omega
    · have ha : acfc = true := by
        cases acfc
        · exact absurd ⟨by simpa using hb, rfl⟩ h1
        · rfl
      simp only [hb, if_false, Bool.false_eq_true]
      rw [if_pos ⟨ha, hL⟩]; omega
  · rw [if_neg h2]; simp
end Go.Proofs.YtggpejjfgphihaaDoor.Pu
end

section
namespace Go.Proofs.YtggpejjfgphihaaDoor.X
open Go.Proofs.YtggpejjfgphihaaDoor.Given Go.Proofs.YtggpejjfgphihaaDoor.D Go.Proofs.YtggpejjfgphihaaDoor.H Go.Proofs.YtggpejjfgphihaaDoor.B Go.RowKit Go.Proofs.YtggpejjfgphihaaDoorW.PrintWords Go.Proofs.YtggpejjfgphihaaDoorW.PrintLast Go.Proofs.YtggpejjfgphihaaDoorW.PrintMore
attribute [local go_sem] max2_int min2_int max_two min_two max_three min_three max_four min_four
set_option linter.unusedVariables false
set_option linter.unusedSimpArgs false
def errW : Option Int → Value
  | none => .nilIface
  | some c => .iface 0 (.int .i64 c)
theorem errW_none : errW none = .nilIface := rfl
theorem errW_some (c : Int) : errW (some c) = .iface 0 (.int .i64 c) := rfl
theorem info5 : (Tryd.prog.info? 5).map (fun i => (i.zero, i.size, i.bytes)) = some (some (.int .u8 0), 1, 1) := by kernel_rfl
def rd_L1 (xs : List (List Int)) (i : Int) : (List Int) := xs.getD i.toNat ([] : List Int)
theorem at_L1 {w : World} {A : Option Addr} {n : Nat} {xs : List (List Int)} (h : Kd.C (Kd.slice 5 (Kd.int .u8)) w A n xs) (i : Int) (h0 : 0 ≤ i) (h1 : i < n) : ∃ ad A0 c0, A = some ad ∧ w.cell? (ad.add i.toNat) = some (.slice A0 (rd_L1 xs i).length c0) ∧ (rd_L1 xs i).length ≤ c0 ∧ (Kd.int .u8).C w A0 (rd_L1 xs i).length (rd_L1 xs i) := by
  obtain ⟨ad, c, e, _, hK, hc0⟩ := Kd.C_get h ([] : List Int) i h0 h1
  have hc : ∀ j u, c[j]? = some u → w.cell? (ad.add (i.toNat * 1 + j)) = some u := hc0
  obtain ⟨A0, c0, rfl, l0, g0⟩ := hK
  exact ⟨ad, A0, c0, e, by have hq := hc 0 _ rfl; rwa [Nat.mul_one, Nat.add_zero] at hq, l0, g0⟩
end Go.Proofs.YtggpejjfgphihaaDoor.X
end
