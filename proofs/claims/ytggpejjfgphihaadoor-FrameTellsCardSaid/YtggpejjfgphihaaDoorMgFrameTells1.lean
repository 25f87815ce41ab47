/- Laid together by wip/prune.py: what the claim needs of the session's texts and of the print program's words. -/
import Derived.Test.YtggpejjfgphihaaDoorMgFrameTells0
import Derived.Test.YtggpejjfgphihaaDoorProg
import Derived.WalkKit
import Derived.Handy
import Derived.Laws.BitsLemmas
import Derived.Deep.WholeRow
import Derived.Deep.LoopGhost
import Derived.Laws.ResultCell
import Derived.Lib.Hide
import Derived.Test.YtggpejjfgphihaaDoorRows
import Derived.ProofKit
import Derived.OpenShut
import Derived.LaidMore
import Derived.Lay
import Derived.Stop.Joined
import Derived.SizedLaws
import Derived.ShutString
import Derived.ChangeOld
import Derived.Below
import Derived.Lib.SlBytesConst
import Derived.Lib.SmallJoins
import Derived.Deep.RegionHeld3
import Derived.OwnWalk
import Derived.Deep.Draws
import Derived.Deep.AppendLies
import Derived.Maps.AppendAt
import Derived.Laws.BytesArg
import Derived.Laws.MakeOwn
import Derived.Laws.OwnMore
import Derived.Deep.OwnRows
import Derived.Tactics
import Derived.Lib.ConvBytes
import Derived.Laws.Slices
import Derived.KernelRfl
import Derived.RowKit3
import Derived.Deep.QuietTactic
import Derived.BigQuiet
import Derived.WideLaws
import Derived.Deep.DeepCutAuto
import Derived.Deep.CutBlock
import Derived.Laws.Rows
import Derived.Lib.AppendStr
import Derived.ArgAppend
import Derived.Laws.IdiomCopy
import Derived.OrdersHeld
import Derived.RowKit
section
namespace Go.Proofs.YtggpejjfgphihaaDoor.Given
open Go.RowKit Go.Proofs.YtggpejjfgphihaaDoorW.PrintWords
structure GF (w : World) : Prop where
  w0 : w.cell? ⟨1, 0, none⟩ = some (.int .u32 3988292384)
  w1 : w.cell? ⟨1, 1, none⟩ = some (.int .u32 4294967295)
  w2 : w.cell? ⟨1, 2, none⟩ = some (.int .u32 3736805603)
  w3 : w.cell? ⟨1, 3, none⟩ = some (.int .i64 4)
  n0 : w.cell? ⟨2, 0, none⟩ = some (.int .u32 33800)
  n1 : w.cell? ⟨2, 1, none⟩ = some (.int .u32 65535)
  n2 : w.cell? ⟨2, 2, none⟩ = some (.int .u32 61624)
  n3 : w.cell? ⟨2, 3, none⟩ = some (.int .i64 2)
structure GH (w : World) : Prop where
  h0 : w.cell? ⟨0, 0, none⟩ = some (.int .u8 255)
  h1 : w.cell? ⟨0, 1, none⟩ = some (.int .u8 3)
theorem GF_below {w w1 : World} (h : GF w) (hb : Below w.heap.size w w1) : GF w1 :=
  ⟨pw_cell_below hb h.w0, pw_cell_below hb h.w1, pw_cell_below hb h.w2, pw_cell_below hb h.w3, pw_cell_below hb h.n0, pw_cell_below hb h.n1, pw_cell_below hb h.n2, pw_cell_below hb h.n3⟩
theorem GH_below {w w1 : World} (h : GH w) (hb : Below w.heap.size w w1) : GH w1 := ⟨pw_cell_below hb h.h0, pw_cell_below hb h.h1⟩
theorem GF_alloc {w : World} (h : GF w) (o : Obj) : GF (w.alloc o) := GF_below h (below_alloc (Below.refl _ _) o)
theorem GF_drew {w : World} (h : GF w) : GF w.drew := GF_below h (below_drew (Below.refl _ _))
theorem GF_drewN {w : World} (h : GF w) (n : Nat) : GF (w.drewN n) := GF_below h (pw_below_drewN (Below.refl _ _) n)
theorem GH_alloc {w : World} (h : GH w) (o : Obj) : GH (w.alloc o) := GH_below h (below_alloc (Below.refl _ _) o)
theorem GH_drew {w : World} (h : GH w) : GH w.drew := GH_below h (below_drew (Below.refl _ _))
theorem GH_drewN {w : World} (h : GH w) (n : Nat) : GH (w.drewN n) := GH_below h (pw_below_drewN (Below.refl _ _) n)
end Go.Proofs.YtggpejjfgphihaaDoor.Given
end

section
namespace Go.Proofs.YtggpejjfgphihaaDoor.Given
open Go.RowKit Go.Proofs.YtggpejjfgphihaaDoorW.PrintWords
def fcs_of.f (a0 : Bool) : Option (Int × Int × Int × Int) := if a0 = true then some (3988292384, 4294967295, 3736805603, 4) else some (33800, 65535, 61624, 2)
theorem fcs_of.calls (a0 : Bool) (r1 r2 r3 r4 : Int) (w : World) (hgF : GF w) (h : fcs_of.f a0 = some (r1, r2, r3, r4)) :
    Calls Tryd.prog 56 #[.bool a0] w fun e w' => e = .returned (.agg #[.int .u32 r1, .int .u32 r2, .int .u32 r3, .int .i64 r4]) ∧ Below w.heap.size w w' := by
  obtain ⟨w0, w1, w2, w3, n0, n1, n2, n3⟩ := hgF
  have l1 : 1 < w.heap.size := World.block_lt_of_cell? w _ w0
  have l2 : 2 < w.heap.size := World.block_lt_of_cell? w _ n0
  cases a0
  · simp only [fcs_of.f, Bool.false_eq_true, if_false, Option.some.injEq, Prod.mk.injEq] at h
    obtain ⟨rfl, rfl, rfl, rfl⟩ := h
    go_enter Tryd.func56, Tryd.ntmps56
    go_wp2
    go_returns
    exact ⟨rfl, by go_grown⟩
  · simp only [fcs_of.f, if_true, Option.some.injEq, Prod.mk.injEq] at h
    obtain ⟨rfl, rfl, rfl, rfl⟩ := h
    go_enter Tryd.func56, Tryd.ntmps56
    go_wp2
    go_returns
    exact ⟨rfl, by go_grown⟩
end Go.Proofs.YtggpejjfgphihaaDoor.Given
end

section
namespace Go.Proofs.YtggpejjfgphihaaDoor.Crc
def st (p x : Nat) : Nat := (x / 2) ^^^ (p * (x % 2))
def it (p : Nat) : Nat → Nat → Nat
  | 0, x => x
  | n + 1, x => it p n (st p x)
theorem xor_div2 (a b : Nat) : (a ^^^ b) / 2 = (a / 2) ^^^ (b / 2) := by
  have := Nat.shiftRight_xor_distrib (a := a) (b := b) (i := 1)
  simpa [Nat.shiftRight_eq_div_pow] using this
theorem st_xor (p a b : Nat) : st p (a ^^^ b) = st p a ^^^ st p b := by
  unfold st
  rw [xor_div2]
  have hm : (a ^^^ b) % 2 = (a % 2) ^^^ (b % 2) := by
    have := Nat.xor_mod_two_pow (a := a) (b := b) (n := 1)
    simpa using this
  rw [hm]
  have ha : a % 2 = 0 ∨ a % 2 = 1 := by omega
  have hb : b % 2 = 0 ∨ b % 2 = 1 := by omega
  rcases ha with ha | ha <;> rcases hb with hb | hb <;> simp [ha, hb]
  · rw [Nat.xor_assoc]
  · rw [Nat.xor_assoc, Nat.xor_assoc, Nat.xor_comm p]
  · rw [Nat.xor_assoc, ← Nat.xor_assoc p, Nat.xor_comm p (b/2), Nat.xor_assoc (b/2), Nat.xor_self, Nat.xor_zero]
theorem it_xor (p n a b : Nat) : it p n (a ^^^ b) = it p n a ^^^ it p n b := by
  induction n generalizing a b with
  | zero => rfl
  | succ n ih => simp only [it, st_xor, ih]
theorem st_two (p x : Nat) : st p (2 * x) = x := by simp [st]
theorem it_add (p m n x : Nat) : it p (m + n) x = it p n (it p m x) := by
  induction m generalizing x with
  | zero => simp [it]
  | succ m ih => rw [Nat.add_right_comm]; simp only [it, ih]
theorem it_pow (p n x : Nat) : it p n (2 ^ n * x) = x := by
  induction n with
  | zero => simp [it]
  | succ n ih => rw [Nat.pow_succ, Nat.mul_comm (2 ^ n) 2, Nat.mul_assoc]; simp only [it, st_two, ih]
theorem split8 (x : Nat) : x = (256 * (x / 256)) ^^^ (x % 256) := by
  have h : x % 256 < 2 ^ 8 := by omega
  have := Nat.two_pow_add_eq_or_of_lt h (x / 256)
  have e : 256 * (x / 256) ||| x % 256 = 256 * (x / 256) ^^^ x % 256 := by
    apply Nat.eq_of_testBit_eq
    intro i
    rw [Nat.testBit_or, Nat.testBit_xor]
    have h1 : (256 * (x / 256)) = 2 ^ 8 * (x / 256) := by rfl
    rw [h1, Nat.testBit_two_pow_mul]
    by_cases hi : 8 ≤ i
    · rw [Nat.testBit_lt_two_pow (Nat.lt_of_lt_of_le h (Nat.pow_le_pow_right (by decide) hi))]; simp
    · simp [hi]
  rw [← e]
  have e2 : (2 : Nat) ^ 8 = 256 := by decide
  rw [e2] at this
  rw [← this]; omega
theorem it8_split (p x : Nat) : it p 8 x = (x / 256) ^^^ it p 8 (x % 256) := by
  conv => lhs; rw [split8 x]
  rw [it_xor]
  congr 1
  exact it_pow p 8 (x / 256)
def more (p reg : Nat) : List Nat → Nat
  | [] => reg
  | c :: l => more p (it p 8 (reg ^^^ c)) l
def le : List Nat → Nat
  | [] => 0
  | c :: l => c ^^^ (256 * le l)
theorem more_eq (p : Nat) (l : List Nat) : ∀ reg, more p reg l = it p (8 * l.length) (reg ^^^ le l) := by
  induction l with
  | nil => intro reg; simp [more, le, it]
  | cons c l ih =>
    intro reg
    rw [more, ih, le]
    have : 8 * (c :: l).length = 8 + 8 * l.length := by simp [Nat.mul_add, Nat.add_comm]
    rw [this, it_add]
    congr 1
    rw [← Nat.xor_assoc, it_xor p 8 (reg ^^^ c)]
    congr 1
    exact (it_pow p 8 (le l)).symm
theorem more_append (p : Nat) (a b : List Nat) : ∀ reg, more p reg (a ++ b) = more p (more p reg a) b := by
  induction a with
  | nil => intro reg; rfl
  | cons c l ih => intro reg; simp only [List.cons_append, more, ih]
theorem st_lt {p w x : Nat} (hp : p < 2 ^ w) (hx : x < 2 ^ w) : st p x < 2 ^ w := by
  unfold st
  apply Nat.xor_lt_two_pow
  · omega
  · have : x % 2 = 0 ∨ x % 2 = 1 := by omega
    rcases this with h | h <;> rw [h] <;> simp <;> first | exact Nat.two_pow_pos w | exact hp
theorem it_lt {p w x : Nat} (n : Nat) (hp : p < 2 ^ w) (hx : x < 2 ^ w) : it p n x < 2 ^ w := by
  induction n generalizing x with
  | zero => exact hx
  | succ n ih => exact ih (st_lt hp hx)
theorem st_eq_zero {p w x : Nat} (hp : 2 ^ w ≤ p) (hx : x < 2 ^ (w + 1)) (h : st p x = 0) : x = 0 := by
  unfold st at h
  have h2 : x % 2 = 0 ∨ x % 2 = 1 := by omega
  have e : (2 : Nat) ^ (w + 1) = 2 * 2 ^ w := by rw [Nat.pow_succ]; omega
  rcases h2 with h2 | h2
  · rw [h2] at h; simp at h; omega
  · rw [h2] at h; simp at h
    have : x / 2 = p := by
      have := congrArg (· ^^^ p) h
      simpa [Nat.xor_assoc] using this
    omega
theorem it_eq_zero {p w x : Nat} (n : Nat) (hp : 2 ^ w ≤ p) (hp2 : p < 2 ^ (w + 1)) (hx : x < 2 ^ (w + 1)) (h : it p n x = 0) : x = 0 := by
  induction n generalizing x with
  | zero => exact h
  | succ n ih => exact st_eq_zero hp hx (ih (st_lt hp2 hx) h)
theorem xor_eq_zero {a b : Nat} (h : a ^^^ b = 0) : a = b := by
  have := congrArg (· ^^^ b) h
  simpa [Nat.xor_assoc] using this
theorem it_inj {p w x y : Nat} (n : Nat) (hp : 2 ^ w ≤ p) (hp2 : p < 2 ^ (w + 1)) (hx : x < 2 ^ (w + 1)) (hy : y < 2 ^ (w + 1)) (h : it p n x = it p n y) : x = y := by
  apply xor_eq_zero
  apply it_eq_zero n hp hp2 (Nat.xor_lt_two_pow hx hy)
  rw [it_xor, h, Nat.xor_self]
end Go.Proofs.YtggpejjfgphihaaDoor.Crc
end

section
namespace Go.Proofs.YtggpejjfgphihaaDoor.Given
open Go
theorem bits_xor_nat (k : IntKind) (n : Nat) (hn : k.bits = n) (hk : ∀ m : Nat, m < 2 ^ n → k.wrap (m : Int) = (m : Int)) (a b : Nat) (ha : a < 2 ^ n) (hb : b < 2 ^ n) :
    Go.bits .xor k (a : Int) (b : Int) = ((a ^^^ b : Nat) : Int) := by
  subst hn
  simp only [Go.bits, BitVec.ofInt_natCast, BitVec.toNat_xor, BitVec.toNat_ofNat, Nat.mod_eq_of_lt ha, Nat.mod_eq_of_lt hb]
  exact hk _ (Nat.xor_lt_two_pow ha hb)
theorem bits_and_nat (k : IntKind) (n : Nat) (hn : k.bits = n) (hk : ∀ m : Nat, m < 2 ^ n → k.wrap (m : Int) = (m : Int)) (a b : Nat) (ha : a < 2 ^ n) (hb : b < 2 ^ n) :
    Go.bits .and k (a : Int) (b : Int) = ((a &&& b : Nat) : Int) := by
  subst hn
  simp only [Go.bits, BitVec.ofInt_natCast, BitVec.toNat_and, BitVec.toNat_ofNat, Nat.mod_eq_of_lt ha, Nat.mod_eq_of_lt hb]
  exact hk _ (Nat.and_lt_two_pow _ hb)
theorem wrap_u32_nat (m : Nat) (h : m < 2 ^ 32) : IntKind.u32.wrap (m : Int) = (m : Int) := by rw [IntKind.wrap_u32]; omega
theorem wrap_u8_nat (m : Nat) (h : m < 2 ^ 8) : IntKind.u8.wrap (m : Int) = (m : Int) := by rw [IntKind.wrap_u8]; omega
theorem wrap_u16_nat (m : Nat) (h : m < 2 ^ 16) : IntKind.u16.wrap (m : Int) = (m : Int) := by simp [IntKind.wrap, IntKind.bits, IntKind.signed]; omega
theorem xor_u32 (a b : Nat) (ha : a < 2 ^ 32) (hb : b < 2 ^ 32) : Go.bits .xor .u32 (a : Int) (b : Int) = ((a ^^^ b : Nat) : Int) := bits_xor_nat .u32 32 rfl wrap_u32_nat a b ha hb
theorem xor_u8 (a b : Nat) (ha : a < 2 ^ 8) (hb : b < 2 ^ 8) : Go.bits .xor .u8 (a : Int) (b : Int) = ((a ^^^ b : Nat) : Int) := bits_xor_nat .u8 8 rfl wrap_u8_nat a b ha hb
theorem and_u32 (a b : Nat) (ha : a < 2 ^ 32) (hb : b < 2 ^ 32) : Go.bits .and .u32 (a : Int) (b : Int) = ((a &&& b : Nat) : Int) := bits_and_nat .u32 32 rfl wrap_u32_nat a b ha hb
theorem and_u8 (a b : Nat) (ha : a < 2 ^ 8) (hb : b < 2 ^ 8) : Go.bits .and .u8 (a : Int) (b : Int) = ((a &&& b : Nat) : Int) := bits_and_nat .u8 8 rfl wrap_u8_nat a b ha hb
theorem and_u16 (a b : Nat) (ha : a < 2 ^ 16) (hb : b < 2 ^ 16) : Go.bits .and .u16 (a : Int) (b : Int) = ((a &&& b : Nat) : Int) := bits_and_nat .u16 16 rfl wrap_u16_nat a b ha hb
theorem and_u32_one (a : Nat) (ha : a < 2 ^ 32) : Go.bits .and .u32 (a : Int) 1 = ((a % 2 : Nat) : Int) := by
  have := and_u32 a 1 ha (by decide)
  rw [Nat.and_one_is_mod] at this
  exact this
open Crc in
theorem st_bits (p x : Nat) (hp : p < 2 ^ 32) (hx : x < 2 ^ 32) :
    Go.bits .xor .u32 ((x : Int) / 2) (((p : Int) * Go.bits .and .u32 (x : Int) 1) % 4294967296) = ((st p x : Nat) : Int) := by
  rw [and_u32_one x hx]
  have hm : p * (x % 2) < 2 ^ 32 := by
    have : x % 2 = 0 ∨ x % 2 = 1 := by omega
    rcases this with h | h <;> rw [h] <;> simp <;> omega
  have e1 : ((p : Int) * ((x % 2 : Nat) : Int)) % 4294967296 = ((p * (x % 2) : Nat) : Int) := by
    rw [← Int.natCast_mul]; omega
  have e2 : (x : Int) / 2 = ((x / 2 : Nat) : Int) := by omega
  rw [e1, e2, xor_u32 _ _ (by omega) hm]
  rfl
end Go.Proofs.YtggpejjfgphihaaDoor.Given
end

section
namespace Go.Proofs.YtggpejjfgphihaaDoor.Given
open Go.RowKit Go.Proofs.YtggpejjfgphihaaDoorW.PrintWords
open Go.Proofs.YtggpejjfgphihaaDoor.Crc (it st)
def tabCells (p k : Nat) : Array Value := Array.ofFn (n := 256) fun i => Value.int .u32 (if i.val < k then ((it p 8 i.val : Nat) : Int) else 0)
theorem tabCells_size (p k : Nat) : (tabCells p k).size = 256 := by simp [tabCells]
theorem tabCells_one (p k : Nat) : (tabCells p k).all (·.oneCell') = true := by
  rw [Array.all_eq_true]
  intro i h
  simp [tabCells, Value.oneCell']
theorem tabCells_zero (p : Nat) : tabCells p 0 = Array.replicate 256 (.int .u32 0) := by
  apply Array.ext
  · simp [tabCells]
  · intro i h1 h2
    simp [tabCells]
theorem tabCells_set (p k : Nat) (_hk : k < 256) : (tabCells p k).setIfInBounds k (.int .u32 ((it p 8 k : Nat) : Int)) = tabCells p (k + 1) := by
  apply Array.ext
  · simp [tabCells]
  · intro i h1 h2
    rw [Array.getElem_setIfInBounds (by simpa using h1)]
    by_cases h : k = i
    · subst h
      simp [tabCells]
    · have : (i < k + 1) ↔ (i < k) := by omega
      simp [tabCells, h, this]
theorem tabCells_at (p k i : Nat) (hk : i < k) (hi : i < 256) : (tabCells p k)[i]? = some (.int .u32 ((it p 8 i : Nat) : Int)) := by
  simp [tabCells, hi, hk]
theorem zero94 : (Tryd.prog.info? 94).map (fun i => (i.zero, i.size)) = some (some (.agg (Array.replicate 256 (.int .u32 0))), 256) := by kernel_rfl
theorem hv94 : ∀ w, (zeroValue 94).run Tryd.prog w = .ok (.agg (Array.replicate 256 (.int .u32 0))) w := (zero_of_info zero94).1
theorem hi94 : (Tryd.prog.info? 94).map (·.size) = some 256 := (zero_of_info zero94).2
theorem st_lt32 (p x : Nat) (hp : p < 4294967296) (hx : x < 4294967296) : st p x < 4294967296 := Crc.st_lt (w := 32) hp hx
set_option maxHeartbeats 2000000 in
set_option maxRecDepth 100000 in
theorem table_calls (p : Nat) (hp : p < 4294967296) (b c : Value) (d : Value) (w : World) :
    Calls Tryd.prog 68 #[.agg #[.int .u32 p, b, c, d]] w fun e w' => e = .returned (.agg (tabCells p 256)) ∧ Below w.heap.size w w' := by
  have hv := hv94
  go_enter Tryd.func68, Tryd.ntmps68
  go_wp2
  rw [← tabCells_zero p]
  have HP := Lib.hid hp
  clear hp hv
  go_loopg [5] 256 (fun g s5 wx => ∃ i : Nat, i + g = 256 ∧ s5 = .int .i64 i ∧ wx = (w.alloc (.cells #[.int .u32 p, b, c, d] 80)).alloc (.cells (tabCells p i) 94))
  case atStart => exact ⟨0, by omega, rfl, rfl⟩
  case round =>
    obtain ⟨i, hig, rfl, rfl⟩ := hrel
    cases gk with
    | zero =>
      obtain rfl : i = 256 := by omega
      have hg := heap_alloc2_new w (.cells #[.int .u32 p, b, c, d] 80) (.cells (tabCells p 256) 94)
      have hsz : (Tryd.prog.info? 94).map (·.size) = some (tabCells p 256).size := by rw [tabCells_size]; exact hi94
      have hrow : ((w.alloc (.cells #[.int .u32 p, b, c, d] 80)).alloc (.cells (tabCells p 256) 94)).setRow (w.heap.size + 1) (tabCells p 256) = (w.alloc (.cells #[.int .u32 p, b, c, d] 80)).alloc (.cells (tabCells p 256) 94) := by
        have := World.setRow_alloc_new (w.alloc (.cells #[.int .u32 p, b, c, d] 80)) (tabCells p 256) (tabCells p 256) 94
        simpa using this
      go_wp2_with (first
        | (with_reducible refine wpList_load_row rfl 94 (.tmp 2) rfl (w.heap.size + 1) rfl 94 (tabCells p 256) (0, 0) _ hg Tryd.underlying94 rfl hsz ?_)
        | (with_reducible refine wpList_store_row rfl 94 (.tmp 2) (.tmp 25) rfl (w.heap.size + 1) (tabCells p 256) rfl rfl 94 (tabCells p 256) hg hsz rfl (tabCells_one p 256) ?_; rw [hrow]))
      (try simp only [Exit.inBlock, Exit.then])
      refine bodyPost_ret (v := .agg (tabCells p 256)) ?_ rfl ⟨rfl, by go_grown⟩
      exact results_cell_row rfl _ _ (w.heap.size + 1) 94 (tabCells p 256) (0, 0) _ rfl hg Tryd.underlying94 rfl hsz
    | succ g =>
      have hi : i < 256 := by omega
      have hiz : (i : Int) < 256 := by omega
      go_wp2
      go_loop [4, 10] (fun s4 s10 => ∃ j x : Nat, j ≤ 8 ∧ x < 4294967296 ∧ Aside0 (it p 8 i = it p (8 - j) x) ∧ s4 = .int .u32 x ∧ s10 = .int .i64 j) (fun _ s10 => 8 - (intOf s10).toNat)
      case atStart => exact ⟨0, i, by omega, by omega, ⟨rfl⟩, rfl, rfl⟩
      case round =>
        obtain ⟨j, x, hj, hx, HX, rfl, rfl⟩ := hrel
        by_cases hj8 : j < 8
        · have hjz : (j : Int) < 8 := by omega
          go_wp2
          go_round
          case measure => simp [intOf]; omega
          case rel =>
            refine ⟨j + 1, st p x, by omega, st_lt32 p x HP.out hx, ⟨?_⟩, ?_, by go_num⟩
            · rw [HX.out, show 8 - j = (8 - (j + 1)) + 1 from by omega]; rfl
            · rw [← st_bits p x HP.out hx]
        · obtain rfl : j = 8 := by omega
          have hcell := tabCells_at p
          have HX2 : Aside0 (it p 8 i = x) := ⟨HX.out⟩
          clear HX
          have hlen : (tabCells p i).size = 256 := tabCells_size p i
          obtain ⟨old, hold⟩ : ∃ old, (tabCells p i)[i]? = some old := ⟨_, Array.getElem?_eq_getElem (by rw [hlen]; exact hi)⟩
          clear hcell
          go_wp2
          go_roundg g
          case measure => omega
          case rel => exact ⟨i + 1, by omega, by go_num, by rw [← tabCells_set p i hi, HX2.out]⟩
end Go.Proofs.YtggpejjfgphihaaDoor.Given
end

section
namespace Go.Proofs.YtggpejjfgphihaaDoor.Given
open Go.RowKit Go.Proofs.YtggpejjfgphihaaDoorW.PrintWords
set_option linter.unusedVariables false
open Go.Proofs.YtggpejjfgphihaaDoor.Crc (it st more)
def okByte (x : Int) : Bool := decide (0 ≤ x) && decide (x < 256)
def polyOf (a0 : Bool) : Nat := if a0 = true then 3988292384 else 33800
def widthOf (a0 : Bool) : Nat := if a0 = true then 4294967296 else 65536
def fcs_More.f (a0 : Bool) (a1 : Int) (l2 : List Int) : Option Int :=
  if l2.all okByte = true ∧ 0 ≤ a1 ∧ a1 < 4294967296 then some ((more (polyOf a0) (a1.toNat % widthOf a0) (l2.map Int.toNat) : Nat) : Int) else none
theorem poly_lt (a0 : Bool) : polyOf a0 < 4294967296 := by cases a0 <;> decide
theorem width_le (a0 : Bool) : 0 < widthOf a0 ∧ widthOf a0 ≤ 4294967296 := by cases a0 <;> decide
theorem and_start (a0 : Bool) (n : Nat) (h : (n : Int) < 4294967296) : Go.bits .and .u32 (n : Int) ((widthOf a0 : Int) - 1) = ((n % widthOf a0 : Nat) : Int) := by
  have h2 : n < 2 ^ 32 := by omega
  have key : ∀ m : Nat, m ≤ 32 → Go.bits .and .u32 (n : Int) ((2 ^ m : Nat) - 1 : Int) = ((n % 2 ^ m : Nat) : Int) := by
    intro m hm
    have hp : 0 < 2 ^ m := Nat.two_pow_pos m
    have hle : 2 ^ m ≤ 2 ^ 32 := Nat.pow_le_pow_right (by decide) hm
    have e : (((2 ^ m : Nat) : Int) - 1) = ((2 ^ m - 1 : Nat) : Int) := by omega
    rw [e, and_u32 n (2 ^ m - 1) h2 (by omega), Nat.and_two_pow_sub_one_eq_mod]
  cases a0
  · exact key 16 (by decide)
  · exact key 32 (by decide)
theorem okByte_rd {l : List Int} (h : l.all okByte = true) (i : Nat) (hi : i < l.length) : ∃ c : Nat, c < 256 ∧ rd l (i : Int) = (c : Int) ∧ (l.map Int.toNat).take (i + 1) = (l.map Int.toNat).take i ++ [c] := by
  have h1 := List.all_eq_true.1 h (l[i]) (List.getElem_mem hi)
  simp [okByte] at h1
  refine ⟨(l[i]).toNat, by omega, ?_, ?_⟩
  · simp [rd, hi]; omega
  · rw [List.take_succ_eq_append_getElem (by simpa using hi)]; simp
theorem step_table (p reg c : Nat) (hp : p < 4294967296) (hr : reg < 4294967296) (hc : c < 256) :
    Go.bits .xor .u32 ((reg : Int) / 256) ((it p 8 (reg % 256 ^^^ c) : Nat) : Int) = ((it p 8 (reg ^^^ c) : Nat) : Int) ∧ it p 8 (reg ^^^ c) < 4294967296 := by
  have hx : reg ^^^ c < 2 ^ 32 := Nat.xor_lt_two_pow (by omega) (by omega)
  have e1 : (reg ^^^ c) / 256 = reg / 256 := by
    have h := Nat.shiftRight_xor_distrib (a := reg) (b := c) (i := 8)
    simp only [Nat.shiftRight_eq_div_pow] at h
    have h2 : c / 2 ^ 8 = 0 := by omega
    rw [h2, Nat.xor_zero] at h
    exact h
  have e2 : (reg ^^^ c) % 256 = reg % 256 ^^^ c := by
    have h := Nat.xor_mod_two_pow (a := reg) (b := c) (n := 8)
    have h2 : c % 2 ^ 8 = c := by omega
    rw [h2] at h
    exact h
  have hlt : it p 8 (reg % 256 ^^^ c) < 2 ^ 32 := Crc.it_lt 8 hp (Nat.lt_of_lt_of_le (Nat.xor_lt_two_pow (n := 8) (by omega) (by omega)) (by decide))
  refine ⟨?_, Crc.it_lt (w := 32) 8 hp hx⟩
  have e3 : (reg : Int) / 256 = ((reg / 256 : Nat) : Int) := by omega
  rw [e3, xor_u32 _ _ (by omega) hlt, Crc.it8_split p (reg ^^^ c), e1, e2]
theorem old_cell {w1 w2 : World} {c : Array Value} {t : TypeId} (hb : Below (w1.alloc (.cells c t)).heap.size (w1.alloc (.cells c t)) w2) (j : Nat) : w2.cell? ⟨w1.heap.size, j, none⟩ = c[j]? := by
  rw [hb.cell (p := ⟨w1.heap.size, j, none⟩) (by simp)]
  exact cell_of_row _ _ j c t (0, 0) (heap_alloc_new w1 _)
theorem old_below {w w1 w2 : World} {o : Obj} (h1 : Below w.heap.size w w1) (hb : Below (w1.alloc o).heap.size (w1.alloc o) w2) : Below w.heap.size w w2 ∧ w1.heap.size < w2.heap.size := by
  have := h1.size
  refine ⟨below_then (h1.alloc this o) (by simp; omega) hb, ?_⟩
  have := hb.size
  simp at this
  omega
theorem made_row (w2 : World) (a b : Array Value) (t : TypeId) : (w2.alloc (.cells a t)).setRow w2.heap.size b = w2.alloc (.cells b t) := World.setRow_alloc_new w2 a b t
set_option maxHeartbeats 2000000 in
set_option maxRecDepth 100000 in
theorem fcs_More.calls (a0 : Bool) (a1 : Int) (A2 : Option Addr) (c2 : Nat) (l2 : List Int) (r : Int) (w : World) (hr2 : Kd.C (Kd.int .u8) w A2 l2.length l2) (hc2 : l2.length ≤ c2) (hgF : GF w) (h : fcs_More.f a0 a1 l2 = some r) :
    Calls Tryd.prog 37 #[.bool a0, .int .u32 a1, .slice A2 l2.length c2] w fun e w' => e = .returned (.int .u32 r) ∧ Below w.heap.size w w' := by
  unfold fcs_More.f at h
  split at h
  case isFalse => cases h
  rename_i hwf
  obtain ⟨hl, ha0, ha1⟩ := hwf
  obtain rfl := Option.some.inj h
  clear h
  obtain ⟨n, rfl⟩ := Int.eq_ofNat_of_zero_le ha0
  clear ha0
  obtain ⟨r1, r2, r3, r4, hof⟩ : ∃ r1 r2 r3 r4, fcs_of.f a0 = some (r1, r2, r3, r4) := by cases a0 <;> exact ⟨_, _, _, _, rfl⟩
  have hof' := hof
  obtain ⟨rfl, rfl⟩ : r1 = (polyOf a0 : Int) ∧ r2 = (widthOf a0 : Int) - 1 := by
    cases a0 <;> simp [fcs_of.f, polyOf, widthOf] at hof ⊢ <;> omega
  have HOF := Lib.hid hof
  have HR := Aside0.mk hr2
  have HL := Lib.hid hl
  have HG := Aside0.mk hgF
  clear hof hof' hr2 hl hgF
  go_enter Tryd.func37, Tryd.ntmps37
  go_wp2_with fail
  refine (fcs_of.calls a0 _ _ _ _ _ HG.out HOF.out).mono ?_
  rintro e w1 ⟨rfl, hb1⟩
  have HB1 := Aside0.mk hb1
  clear hb1
  go_wp2_with fail
  refine (table_calls (polyOf a0) (poly_lt a0) _ _ _ _).mono ?_
  rintro e w2 ⟨rfl, hb2⟩
  have hst := old_cell hb2 1
  obtain ⟨hbw, hlt⟩ := old_below HB1.out hb2
  have HBW := Aside0.mk hbw
  clear hb2 hbw
  have hst : w2.cell? ⟨w1.heap.size, 1, none⟩ = some (.int .u32 ((widthOf a0 : Int) - 1)) := hst
  have hg := heap_alloc_new w2 (.cells (Array.replicate 256 (.int .u32 0)) 94)
  have hsz : (Tryd.prog.info? 94).map (·.size) = some (tabCells (polyOf a0) 256).size := by rw [tabCells_size]; exact hi94
  have hrow := made_row w2 (Array.replicate 256 (.int .u32 0)) (tabCells (polyOf a0) 256) 94
  have hv := hv94
  go_wp2_with (first
        | (with_reducible refine wpList_store_row rfl 94 (.tmp 8) (.tmp 14) rfl w2.heap.size (tabCells (polyOf a0) 256) rfl rfl 94 (Array.replicate 256 (.int .u32 0)) hg hsz (by rw [tabCells_size, Array.size_replicate]) (tabCells_one _ 256) ?_; rw [hrow]))
  rw [and_start a0 n ha1]
  clear hst hg hsz hrow hv
  have HC := Aside0.mk (Kd.C_below (Kd.C_below HR.out HBW.out) (below_alloc (Below.refl _ _) (.cells (tabCells (polyOf a0) 256) 94)))
  have HT : Aside0 (∀ d : Nat, d < 256 → (w2.alloc (.cells (tabCells (polyOf a0) 256) 94)).cell? ⟨w2.heap.size, d, none⟩ = some (.int .u32 ((it (polyOf a0) 8 d : Nat) : Int))) :=
    ⟨fun d hd => by rw [cell_of_row _ _ d _ 94 (0, 0) (heap_alloc_new w2 _)]; exact tabCells_at _ _ _ hd hd⟩
  have hmax : l2.length ≤ 9223372036854775807 := HR.out.2.1
  have hp := poly_lt a0
  have HP := Lib.hid hp
  have hr0 : n % widthOf a0 < 4294967296 := Nat.lt_of_lt_of_le (Nat.mod_lt _ (width_le a0).1) (width_le a0).2
  have HR0 := Lib.hid hr0
  clear hp hr0
  go_loop [1, 21] (fun s1 s21 => ∃ i reg : Nat, i ≤ l2.length ∧ reg < 4294967296 ∧ s21 = .int .i64 i ∧ s1 = .int .u32 reg ∧ Aside0 (reg = more (polyOf a0) (n % widthOf a0) ((l2.map Int.toNat).take i))) (fun _ s21 => l2.length - (intOf s21).toNat)
  case atStart => exact ⟨0, _, by omega, HR0.out, rfl, rfl, ⟨by simp [more]⟩⟩
  case round =>
    obtain ⟨i, reg, hi, hreg, rfl, rfl, HE⟩ := hrel
    by_cases hlt : i < l2.length
    · obtain ⟨c, hc, hrd, htk⟩ := okByte_rd HL.out i hlt
      obtain ⟨ad, had, hcell⟩ := Kd.at_int HC.out (i : Int) (by omega) (by omega)
      rw [hrd] at hcell
      obtain ⟨hstep, hlt2⟩ := step_table (polyOf a0) reg c HP.out hreg hc
      have hd : reg % 256 ^^^ c < 256 := Nat.xor_lt_two_pow (n := 8) (by omega) (by omega)
      obtain ⟨d, hdd⟩ : ∃ d : Nat, d = reg % 256 ^^^ c := ⟨_, rfl⟩
      have hx : Go.bits .xor .u8 ((reg : Int) % 256) (c : Int) = (d : Int) := by
        rw [hdd, ← xor_u8 _ _ (by omega) (by omega)]; rfl
      rw [← hdd] at hstep hd
      have ht := HT.out d hd
      have HS := Lib.hid hstep
      have HK := Lib.hid htk
      have HD := Lib.hid hdd
      clear hstep htk hrd hdd
      cases had
      simp only [Int.toNat_natCast] at hcell
      have hd2 : (d : Int) < 256 := by omega
      go_wp2
      go_round
      case measure => simp [intOf]; omega
      case rel => exact ⟨i + 1, it (polyOf a0) 8 (reg ^^^ c), by omega, hlt2, by go_num, by rw [HS.out], ⟨by rw [HK.out, Crc.more_append, ← HE.out]; rfl⟩⟩
    · obtain rfl : i = l2.length := by omega
      go_wp2
      go_ret
      have HE2 := HE.out
      rw [List.take_of_length_le (by simp)] at HE2
      exact ⟨by rw [HE2]; simp, HBW.out.alloc HBW.out.size _⟩
end Go.Proofs.YtggpejjfgphihaaDoor.Given
end

section
namespace Go.Proofs.YtggpejjfgphihaaDoor.Rk
open Go.ChangeShapes Go.WideShapes Go.ChangeAt Go.WideMaps Go.WideElems Go.RowKit
open Go.Proofs.YtggpejjfgphihaaDoor.Given Go.Proofs.YtggpejjfgphihaaDoorW.PrintWords
set_option linter.unusedVariables false
theorem own : ownKnob Tryd.prog.godebug = none := by kernel_rfl
theorem laidOut : laidOutB Tryd.prog = true := by kernel_rfl
theorem gFull : Tryd.prog.globalNamed "marline/head.full" = some 0 := by kernel_rfl
theorem gWider : Tryd.prog.globalNamed "marline/fcs.wider" = some 1 := by kernel_rfl
theorem gNarrow : Tryd.prog.globalNamed "marline/fcs.narrow" = some 2 := by kernel_rfl
theorem tFull : (Tryd.prog.globals[0]?).map (·.type) = some 82 := by kernel_rfl
theorem tWider : (Tryd.prog.globals[1]?).map (·.type) = some 80 := by kernel_rfl
theorem tNarrow : (Tryd.prog.globals[2]?).map (·.type) = some 80 := by kernel_rfl
theorem cells80 : Tryd.prog.cellsOf 80 = 4 := by kernel_rfl
theorem cells82 : Tryd.prog.cellsOf 82 = 2 := by kernel_rfl
theorem cells24 : Tryd.prog.cellsOf 24 = 7 := by kernel_rfl
theorem cells22 : Tryd.prog.cellsOf 22 = 1 := by kernel_rfl
theorem cells3 : Tryd.prog.cellsOf 3 = 1 := by kernel_rfl
theorem cells4 : Tryd.prog.cellsOf 4 = 1 := by kernel_rfl
theorem cells5 : Tryd.prog.cellsOf 5 = 1 := by kernel_rfl
section
variable {H : Type} {enc : TypeId × Value → H} {W : World} {base : Nat} {spare : Nat → Bool} {held : Bool}
set_option maxRecDepth 100000 in
theorem method_cells {n : Nat} {cs : List Value} {a b c d : Int} {ps : List MemPlace}
    (h : DataW.trod enc Tryd.prog W base spare held n 80 cs = some (.agg [.lit (.int .u32 a), .lit (.int .u32 b), .lit (.int .u32 c), .lit (.int .i64 d)], ps)) :
    cs = [.int .u32 a, .int .u32 b, .int .u32 c, .int .i64 d] := by
  obtain ⟨xs, m, _, hx, hl, hxl, hf⟩ := DataW.trod_struct Tryd.underlying80 h
  rw [cells80] at hl
  match cs, hl with
  | [c0, c1, c2, c3], _ =>
    match xs, hxl with
    | [y0, y1, y2, y3], _ =>
      simp only [Prod.mk.injEq, DataW.agg.injEq, List.map_cons, List.map_nil, List.cons.injEq, and_true] at hx
      obtain ⟨⟨e0, e1, e2, e3⟩, _⟩ := hx
      have f0 : DataW.trod enc Tryd.prog W base spare held m 22 (([c0, c1, c2, c3].drop 0).take (Tryd.prog.cellsOf 22)) = ([y0, y1, y2, y3] : List (DataW H × List MemPlace))[0]? := hf 0 _ rfl
      rw [cells22] at f0
      replace f0 : DataW.trod enc Tryd.prog W base spare held m 22 [c0] = some y0 := f0
      have f1 : DataW.trod enc Tryd.prog W base spare held m 22 (([c0, c1, c2, c3].drop 1).take (Tryd.prog.cellsOf 22)) = ([y0, y1, y2, y3] : List (DataW H × List MemPlace))[1]? := hf 1 _ rfl
      rw [cells22] at f1
      replace f1 : DataW.trod enc Tryd.prog W base spare held m 22 [c1] = some y1 := f1
      have f2 : DataW.trod enc Tryd.prog W base spare held m 22 (([c0, c1, c2, c3].drop 2).take (Tryd.prog.cellsOf 22)) = ([y0, y1, y2, y3] : List (DataW H × List MemPlace))[2]? := hf 2 _ rfl
      rw [cells22] at f2
      replace f2 : DataW.trod enc Tryd.prog W base spare held m 22 [c2] = some y2 := f2
      have f3 : DataW.trod enc Tryd.prog W base spare held m 3 (([c0, c1, c2, c3].drop 3).take (Tryd.prog.cellsOf 3)) = ([y0, y1, y2, y3] : List (DataW H × List MemPlace))[3]? := hf 3 _ rfl
      rw [cells3] at f3
      replace f3 : DataW.trod enc Tryd.prog W base spare held m 3 [c3] = some y3 := f3
      obtain ⟨k0, g0, h0, _⟩ := DataW.trod_int Tryd.underlying22 f0
      obtain ⟨k1, g1, h1, _⟩ := DataW.trod_int Tryd.underlying22 f1
      obtain ⟨k2, g2, h2, _⟩ := DataW.trod_int Tryd.underlying22 f2
      obtain ⟨k3, g3, h3, _⟩ := DataW.trod_int Tryd.underlying3 f3
      rw [h0] at e0; rw [h1] at e1; rw [h2] at e2; rw [h3] at e3
      simp only [DataW.lit.injEq, Lit.int.injEq, true_and] at e0 e1 e2 e3
      simp only [List.cons.injEq, and_true] at g0 g1 g2 g3
      rw [g0, g1, g2, g3, e0, e1, e2, e3]
set_option maxRecDepth 100000 in
theorem full_cells {n : Nat} {cs : List Value} {a b : Int} {ps : List MemPlace}
    (h : DataW.trod enc Tryd.prog W base spare held n 82 cs = some (.agg [.lit (.int .u8 a), .lit (.int .u8 b)], ps)) :
    cs = [.int .u8 a, .int .u8 b] := by
  obtain ⟨xs, m, rfl, hx, hl, hn, hel⟩ := DataW.trod_array Tryd.underlying82 h
  match xs, hn with
  | [y0, y1], _ =>
    simp only [Prod.mk.injEq, DataW.agg.injEq, List.map_cons, List.map_nil, List.cons.injEq, and_true] at hx
    obtain ⟨⟨e0, e1⟩, _⟩ := hx
    have f0 := hel 0 (by decide)
    have f1 := hel 1 (by decide)
    rw [cells5] at f0 f1
    have hl2 : cs.length = 2 := by simpa [cells82, cells5] using hl
    match cs, hl2 with
    | [c0, c1], _ =>
      simp only [Nat.zero_mul, Nat.one_mul, List.drop_zero, List.drop_succ_cons, List.take_succ_cons, List.take_zero, List.getElem?_cons_zero, List.getElem?_cons_succ] at f0 f1
      obtain ⟨k0, g0, h0, _⟩ := DataW.trod_int Tryd.underlying5 f0
      obtain ⟨k1, g1, h1, _⟩ := DataW.trod_int Tryd.underlying5 f1
      rw [h0] at e0; rw [h1] at e1
      simp only [DataW.lit.injEq, Lit.int.injEq, true_and] at e0 e1
      simp only [List.cons.injEq, and_true] at g0 g1
      rw [g0, g1, e0, e1]
set_option maxRecDepth 100000 in
theorem open_cfg {r : Reach} {b0 : Nat} {v : Value} {d : DataW H} {p : List MemPlace} (hv : Value.okWide Tryd.prog W r b0 24 v) (h : DataW.Trod enc Tryd.prog W base spare held 24 v d p) :
    ∃ (a0 a1 a2 a3 : Bool) (a4 a5 a6 : Int), v = .agg #[.bool a0, .bool a1, .bool a2, .bool a3, .int .u32 a4, .int .u32 a5, .int .i64 a6] ∧
      (Lit.int .u32 a4).wf = true ∧ (Lit.int .u32 a5).wf = true ∧ (Lit.int .i64 a6).wf = true := by
  obtain ⟨cs, rfl, hsz⟩ := okWide_struct Tryd.underlying24 hv
  obtain ⟨l⟩ := cs
  obtain ⟨fuel, hf0⟩ := h
  have hf1 : DataW.trod enc Tryd.prog W base spare held fuel 24 l = some (d, p) := by simpa [Value.cells] using hf0
  obtain ⟨xs, m, _, hx, hl, hxl, hf⟩ := DataW.trod_struct Tryd.underlying24 hf1
  rw [cells24] at hl
  match l, hl with
  | [c0, c1, c2, c3, c4, c5, c6], _ =>
    match xs, hxl with
    | [y0, y1, y2, y3, y4, y5, y6], _ =>
      have f0 : DataW.trod enc Tryd.prog W base spare held m 4 (([c0, c1, c2, c3, c4, c5, c6].drop 0).take (Tryd.prog.cellsOf 4)) = ([y0, y1, y2, y3, y4, y5, y6] : List (DataW H × List MemPlace))[0]? := hf 0 _ rfl
      rw [cells4] at f0
      replace f0 : DataW.trod enc Tryd.prog W base spare held m 4 [c0] = some y0 := f0
      have f1 : DataW.trod enc Tryd.prog W base spare held m 4 (([c0, c1, c2, c3, c4, c5, c6].drop 1).take (Tryd.prog.cellsOf 4)) = ([y0, y1, y2, y3, y4, y5, y6] : List (DataW H × List MemPlace))[1]? := hf 1 _ rfl
      rw [cells4] at f1
      replace f1 : DataW.trod enc Tryd.prog W base spare held m 4 [c1] = some y1 := f1
      have f2 : DataW.trod enc Tryd.prog W base spare held m 4 (([c0, c1, c2, c3, c4, c5, c6].drop 2).take (Tryd.prog.cellsOf 4)) = ([y0, y1, y2, y3, y4, y5, y6] : List (DataW H × List MemPlace))[2]? := hf 2 _ rfl
      rw [cells4] at f2
      replace f2 : DataW.trod enc Tryd.prog W base spare held m 4 [c2] = some y2 := f2
      have f3 : DataW.trod enc Tryd.prog W base spare held m 4 (([c0, c1, c2, c3, c4, c5, c6].drop 3).take (Tryd.prog.cellsOf 4)) = ([y0, y1, y2, y3, y4, y5, y6] : List (DataW H × List MemPlace))[3]? := hf 3 _ rfl
      rw [cells4] at f3
      replace f3 : DataW.trod enc Tryd.prog W base spare held m 4 [c3] = some y3 := f3
      have f4 : DataW.trod enc Tryd.prog W base spare held m 22 (([c0, c1, c2, c3, c4, c5, c6].drop 4).take (Tryd.prog.cellsOf 22)) = ([y0, y1, y2, y3, y4, y5, y6] : List (DataW H × List MemPlace))[4]? := hf 4 _ rfl
      rw [cells22] at f4
      replace f4 : DataW.trod enc Tryd.prog W base spare held m 22 [c4] = some y4 := f4
      have f5 : DataW.trod enc Tryd.prog W base spare held m 22 (([c0, c1, c2, c3, c4, c5, c6].drop 5).take (Tryd.prog.cellsOf 22)) = ([y0, y1, y2, y3, y4, y5, y6] : List (DataW H × List MemPlace))[5]? := hf 5 _ rfl
      rw [cells22] at f5
      replace f5 : DataW.trod enc Tryd.prog W base spare held m 22 [c5] = some y5 := f5
      have f6 : DataW.trod enc Tryd.prog W base spare held m 3 (([c0, c1, c2, c3, c4, c5, c6].drop 6).take (Tryd.prog.cellsOf 3)) = ([y0, y1, y2, y3, y4, y5, y6] : List (DataW H × List MemPlace))[6]? := hf 6 _ rfl
      rw [cells3] at f6
      replace f6 : DataW.trod enc Tryd.prog W base spare held m 3 [c6] = some y6 := f6
      obtain ⟨k0, g0, _⟩ := DataW.trod_bool Tryd.underlying4 f0
      obtain ⟨k1, g1, _⟩ := DataW.trod_bool Tryd.underlying4 f1
      obtain ⟨k2, g2, _⟩ := DataW.trod_bool Tryd.underlying4 f2
      obtain ⟨k3, g3, _⟩ := DataW.trod_bool Tryd.underlying4 f3
      obtain ⟨k4, g4, _, w4⟩ := DataW.trod_int Tryd.underlying22 f4
      obtain ⟨k5, g5, _, w5⟩ := DataW.trod_int Tryd.underlying22 f5
      obtain ⟨k6, g6, _, w6⟩ := DataW.trod_int Tryd.underlying3 f6
      simp only [List.cons.injEq, and_true] at g0 g1 g2 g3 g4 g5 g6
      exact ⟨k0, k1, k2, k3, k4, k5, k6, by rw [g0, g1, g2, g3, g4, g5, g6], w4, w5, w6⟩
end
theorem wf_u32 {n : Int} (h : (Lit.int .u32 n).wf = true) : 0 ≤ n ∧ n < 4294967296 := by
  have : IntKind.u32.min ≤ n ∧ n ≤ IntKind.u32.max := by simpa [Lit.wf] using h
  have e1 : IntKind.u32.min = 0 := by decide
  have e2 : IntKind.u32.max = 4294967295 := by decide
  omega
theorem wf_u16 {n : Int} (h : (Lit.int .u16 n).wf = true) : 0 ≤ n ∧ n < 65536 := by
  have : IntKind.u16.min ≤ n ∧ n ≤ IntKind.u16.max := by simpa [Lit.wf] using h
  have e1 : IntKind.u16.min = 0 := by decide
  have e2 : IntKind.u16.max = 65535 := by decide
  omega
theorem wf_u8 {n : Int} (h : (Lit.int .u8 n).wf = true) : 0 ≤ n ∧ n < 256 := by
  have : IntKind.u8.min ≤ n ∧ n ≤ IntKind.u8.max := by simpa [Lit.wf] using h
  have e1 : IntKind.u8.min = 0 := by decide
  have e2 : IntKind.u8.max = 255 := by decide
  omega
theorem bounds_i64 {n : Int} (h : (Lit.int .i64 n).wf = true) : -9223372036854775808 ≤ n ∧ n ≤ 9223372036854775807 := by
  have : IntKind.i64.min ≤ n ∧ n ≤ IntKind.i64.max := by simpa [Lit.wf] using h
  have e1 : IntKind.i64.min = -9223372036854775808 := by decide
  have e2 : IntKind.i64.max = 9223372036854775807 := by decide
  omega
theorem open_bytes {H : Type} {enc : TypeId × Value → H} {W : World} {base : Nat} {held : Bool} {a : Option Addr} {len cap : Nat} {d : DataW H} {p : List MemPlace}
    (h : DataW.Trod enc Tryd.prog W base (fun _ => true) held 35 (.slice a len cap) d p) :
    ∃ l : List Int, len = l.length ∧ Kd.C (Kd.int .u8) W a l.length l ∧ l.length ≤ cap ∧ l.all okByte = true := by
  obtain ⟨fuel, hf⟩ := h
  rcases open_ints Tryd.underlying35 Tryd.underlying5 (by kernel_rfl) hf with ⟨hcs, _⟩ | ⟨x, l, c, zs, hcs, _, hl, hm, hz, _, hcell, hwz⟩
  · simp [Value.cells] at hcs
    obtain ⟨rfl, rfl, rfl⟩ := hcs
    exact ⟨[], rfl, Kd.C_nil _ _, Nat.le_refl _, rfl⟩
  · simp [Value.cells] at hcs
    obtain ⟨rfl, rfl, rfl⟩ := hcs
    obtain ⟨l1, hl1, hr1, hm1, hw1, hc1⟩ := ReadsInt.ofRowC (w := W) (a := some x) (len := len) (cap := cap) (zs := zs) (k := .u8) (.inr ⟨x, rfl, hl, hm, by simpa using hz, hcell, hwz⟩)
    refine ⟨l1, hl1, Kd.C_of_reads (d := (0 : Int)) (h1 := fun _ => rfl) hr1, hc1, ?_⟩
    rw [List.all_eq_true]
    intro y hy
    have := wf_u8 (hw1 y hy)
    simp [okByte]
    exact this
abbrev laidA : List (String × DataW Unit) := [("marline/fcs.narrow", Rows.laid_marline_fcs_narrow), ("marline/fcs.wider", Rows.laid_marline_fcs_wider), ("marline/head.full", Rows.laid_marline_head_full)]
theorem cell_at {W : World} {g : Nat} {name : String} {cs : Array Value} {l : List Value} (hg : Tryd.prog.globalNamed name = some g) (hv : W.var? Tryd.prog name = some cs) (he : cs.toList = l) (j : Nat) : W.cell? ⟨g, j, none⟩ = l[j]? := by
  rw [World.var?_cell hg hv j, ← he]; simp
theorem gf_of {W : World} {cn cw : Array Value} (hn : W.var? Tryd.prog "marline/fcs.narrow" = some cn) (hw : W.var? Tryd.prog "marline/fcs.wider" = some cw)
    (en : cn.toList = [.int .u32 33800, .int .u32 65535, .int .u32 61624, .int .i64 2]) (ew : cw.toList = [.int .u32 3988292384, .int .u32 4294967295, .int .u32 3736805603, .int .i64 4]) : GF W :=
  ⟨cell_at gWider hw ew 0, cell_at gWider hw ew 1, cell_at gWider hw ew 2, cell_at gWider hw ew 3, cell_at gNarrow hn en 0, cell_at gNarrow hn en 1, cell_at gNarrow hn en 2, cell_at gNarrow hn en 3⟩
theorem gh_of {W : World} {c : Array Value} (hf : W.var? Tryd.prog "marline/head.full" = some c) (ef : c.toList = [.int .u8 255, .int .u8 3]) : GH W :=
  ⟨cell_at gFull hf ef 0, cell_at gFull hf ef 1⟩
theorem of_laidA {W : World} (h : laidMetH Tryd.prog laidA W) : GF W ∧ GH W := by
  rw [MakeChecks.laidMetH_plain _ _ _ (by kernel_rfl)] at h
  obtain ⟨ps, ⟨g0, t0, cs0, f0, p0, q0, hg0, ht0, hv0, hd0, ⟨g1, t1, cs1, f1, p1, q1, hg1, ht1, hv1, hd1, ⟨g2, t2, cs2, f2, p2, q2, hg2, ht2, hv2, hd2, _, _⟩, _⟩, _⟩, _, _⟩ := h
  obtain rfl := Option.some.inj (gNarrow.symm.trans hg0)
  obtain rfl := Option.some.inj (gWider.symm.trans hg1)
  obtain rfl := Option.some.inj (gFull.symm.trans hg2)
  obtain rfl := Option.some.inj (tNarrow.symm.trans ht0)
  obtain rfl := Option.some.inj (tWider.symm.trans ht1)
  obtain rfl := Option.some.inj (tFull.symm.trans ht2)
  exact ⟨gf_of hv0 hv1 (method_cells hd0) (method_cells hd1), gh_of hv2 (full_cells hd2)⟩
end Go.Proofs.YtggpejjfgphihaaDoor.Rk
end

section
namespace Go.Proofs.YtggpejjfgphihaaDoor.Given
open Go.RowKit Go.Proofs.YtggpejjfgphihaaDoorW.PrintWords
open Go.Proofs.YtggpejjfgphihaaDoor.Crc (it st more)
set_option linter.unusedVariables false
def sumN (a0 : Bool) (l : List Nat) : Nat := more (polyOf a0) (widthOf a0 - 1) l ^^^ (widthOf a0 - 1)
def fcs_Sum.f (a0 : Bool) (l1 : List Int) : Option Int := if l1.all okByte = true then some ((sumN a0 (l1.map Int.toNat) : Nat) : Int) else none
theorem more_lt (a0 : Bool) (r : Nat) (hr : r < widthOf a0) (l : List Nat) (hl : ∀ x ∈ l, x < 256) : more (polyOf a0) r l < widthOf a0 := by
  induction l generalizing r with
  | nil => exact hr
  | cons c l ih =>
    refine ih _ ?_ (fun x hx => hl x (List.mem_cons_of_mem _ hx))
    have hc := hl c List.mem_cons_self
    cases a0
    · exact Crc.it_lt (w := 16) 8 (by decide) (Nat.xor_lt_two_pow hr (by omega))
    · exact Crc.it_lt (w := 32) 8 (by decide) (Nat.xor_lt_two_pow hr (by omega))
theorem bytes_of {l : List Int} (h : l.all okByte = true) : ∀ x ∈ l.map Int.toNat, x < 256 := by
  intro x hx
  obtain ⟨y, hy, rfl⟩ := List.mem_map.1 hx
  have := List.all_eq_true.1 h y hy
  simp [okByte] at this
  omega
theorem sum_lt (a0 : Bool) (l : List Nat) (hl : ∀ x ∈ l, x < 256) : sumN a0 l < widthOf a0 := by
  unfold sumN
  have h := more_lt a0 (widthOf a0 - 1) (by cases a0 <;> decide) l hl
  cases a0
  · exact Nat.xor_lt_two_pow (n := 16) h (by decide)
  · exact Nat.xor_lt_two_pow (n := 32) h (by decide)
set_option maxHeartbeats 2000000 in
set_option maxRecDepth 100000 in
theorem fcs_Sum.calls (a0 : Bool) (A1 : Option Addr) (c1 : Nat) (l1 : List Int) (r : Int) (w : World) (hr1 : Kd.C (Kd.int .u8) w A1 l1.length l1) (hc1 : l1.length ≤ c1) (hgF : GF w) (h : fcs_Sum.f a0 l1 = some r) :
    Calls Tryd.prog 27 #[.bool a0, .slice A1 l1.length c1] w fun e w' => e = .returned (.int .u32 r) ∧ Below w.heap.size w w' := by
  unfold fcs_Sum.f at h
  split at h
  case isFalse => cases h
  rename_i hl
  obtain rfl := Option.some.inj h
  clear h
  obtain ⟨r1, r2, r3, r4, hof⟩ : ∃ r1 r2 r3 r4, fcs_of.f a0 = some (r1, r2, r3, r4) := by cases a0 <;> exact ⟨_, _, _, _, rfl⟩
  have hr2 : r2 = ((widthOf a0 - 1 : Nat) : Int) := by cases a0 <;> simp [fcs_of.f, widthOf] at hof ⊢ <;> omega
  subst hr2
  have hm : fcs_More.f a0 ((widthOf a0 - 1 : Nat) : Int) l1 = some ((more (polyOf a0) (widthOf a0 - 1) (l1.map Int.toNat) : Nat) : Int) := by
    unfold fcs_More.f
    have := (width_le a0).2
    rw [if_pos ⟨hl, by omega, by omega⟩]
    have e : ((widthOf a0 - 1 : Nat) : Int).toNat % widthOf a0 = widthOf a0 - 1 := by cases a0 <;> decide
    rw [e]
  have hx : Go.bits .xor .u32 ((more (polyOf a0) (widthOf a0 - 1) (l1.map Int.toNat) : Nat) : Int) ((widthOf a0 - 1 : Nat) : Int) = ((sumN a0 (l1.map Int.toNat) : Nat) : Int) := by
    have h1 := more_lt a0 (widthOf a0 - 1) (by cases a0 <;> decide) _ (bytes_of hl)
    have h2 := (width_le a0).2
    rw [xor_u32 _ _ (by omega) (by omega)]; rfl
  have HOF := Lib.hid hof
  have HM := Lib.hid hm
  have HX := Lib.hid hx
  have HR := Aside0.mk hr1
  have HC := Aside0.mk hc1
  have HG := Aside0.mk hgF
  obtain ⟨mv, hmv⟩ : ∃ mv : Int, mv = ((more (polyOf a0) (widthOf a0 - 1) (l1.map Int.toNat) : Nat) : Int) := ⟨_, rfl⟩
  obtain ⟨sv, hsv⟩ : ∃ sv : Int, sv = ((widthOf a0 - 1 : Nat) : Int) := ⟨_, rfl⟩
  rw [← hmv, ← hsv] at hx hm
  rw [← hsv] at hof
  have HOF := Lib.hid hof
  have HM := Lib.hid hm
  have HX := Lib.hid hx
  clear hof hm hx hr1 hc1 hgF hl hmv hsv
  go_enter Tryd.func27, Tryd.ntmps27
  go_wp2_with fail
  refine (fcs_of.calls a0 r1 sv r3 r4 _ HG.out HOF.out).mono ?_
  rintro e w1 ⟨rfl, hb1⟩
  have HB1 := Aside0.mk hb1
  clear hb1
  go_wp2_with fail
  have hcell : (w1.alloc (.cells #[.int .u32 r1, .int .u32 sv, .int .u32 r3, .int .i64 r4] 80)).cell? ⟨w1.heap.size, 1, none⟩ = some (.int .u32 sv) := cell_of_row _ _ 1 _ 80 (0, 0) (heap_alloc_new w1 _)
  obtain ⟨W1, hW1⟩ : ∃ W1, W1 = w1.alloc (.cells #[.int .u32 r1, .int .u32 sv, .int .u32 r3, .int .i64 r4] 80) := ⟨_, rfl⟩
  have hbw : Below w.heap.size w W1 := by rw [hW1]; exact HB1.out.alloc HB1.out.size _
  rw [← hW1] at hcell ⊢
  have HBW := Aside0.mk hbw
  clear hW1 hbw
  go_region_held3 (fun W => W.cell? ⟨w1.heap.size, 1, none⟩ = some (.int .u32 sv))
    (first | exact hcell | exact pw_cell_below hb2 hcell)
    (first | (go_at_call 37; refine (fcs_More.calls a0 sv _ _ l1 mv _ (Kd.C_below HR.out (below_drew HBW.out)) HC.out (GF_below HG.out (below_drew HBW.out)) HM.out).mono ?_; rintro e w2 ⟨rfl, hb2⟩))
  go_wp2
  go_ret
  exact ⟨by rw [HX.out]; rfl, below_then (below_drew HBW.out) (below_drew HBW.out).size (by assumption)⟩
end Go.Proofs.YtggpejjfgphihaaDoor.Given
end

section
namespace Go.Proofs.YtggpejjfgphihaaDoor.Given
open Go.RowKit Go.Proofs.YtggpejjfgphihaaDoorW.PrintWords
set_option linter.unusedVariables false
theorem R_make0 {P : Program} {ops : Array Oper} {rest : List Oper} {o : Oper} {a : Act} {Q : Exit → Act → World → Prop} {w0 W : World} (base e : Nat) (hgd : o.guard = none) {N : Tmp} (hd : o.dst = some N) (t : TypeId) (x y : Operand) (ho : o.op = .makeSlice t x y) (n : Int) (hx : a.eval x = .int .i64 0) (hy : a.eval y = .int .i64 n)
    (ht : P.underlying t = some (.slice e)) (hinfo : (P.info? e).map (fun i => (i.zero, i.size, i.bytes)) = some (some (.int .u8 0), 1, 1))
    {ok : Nat → Prop} (hfresh : ok W.heap.size) (h0 : 0 ≤ n) (hl : n.toNat ≤ 281474976710656) (HB : Below base w0 W) (hbase : base ≤ W.heap.size)
    (h : ∀ v1 w1, (Kd.int .u8).R e w1 base ok v1 [] → Below base w0 w1 → W.grownBy w1 none → (∃ b, v1.ownBlock = some b ∧ W.heap.size ≤ b) → wpList P ops Q rest (a.put o.dst v1) w1) : wpList P ops Q (o :: rest) a W := by
  obtain ⟨m, rfl⟩ := Int.eq_ofNat_of_zero_le h0
  simp only [Int.toNat_natCast] at hl
  obtain ⟨i0, hi, hzz⟩ := Option.map_eq_some_iff.1 hinfo
  simp only [Prod.mk.injEq] at hzz
  obtain ⟨hz0, hz1, hz2⟩ := hzz
  refine wpList_make_own W hgd x y t ho base e i0 (.int .u8 0) 1 ht hi hz0 hz1 .i64 .i64 (m : Int) m hx hy rfl (by rw [hz2]; omega) (by simp only [maxLen]; omega) hbase ?_
  intro w' hown hg
  refine h _ w' (Kd.R_of_own (h1 := fun _ => rfl) (xs := ([] : List Int)) hown (fun k hk => ?_)) (HB.grown hg hbase (fun k hk => by cases hk)) hg ⟨W.heap.size, rfl, Nat.le_refl _⟩
  have : W.heap.size = k := by simpa [Value.ownBlock] using hk
  exact this ▸ hfresh
end Go.Proofs.YtggpejjfgphihaaDoor.Given
end

section
namespace Go.Proofs.YtggpejjfgphihaaDoor.D
open Go.Proofs.YtggpejjfgphihaaDoor.Given Go.RowKit Go.Proofs.YtggpejjfgphihaaDoorW.PrintWords Go.Proofs.YtggpejjfgphihaaDoorW.PrintLast Go.Proofs.YtggpejjfgphihaaDoorW.PrintMore
attribute [local go_sem] max2_int min2_int max_two min_two max_three min_three max_four min_four
set_option linter.unusedVariables false
set_option linter.unusedSimpArgs false
def errW : Option Int → Value
  | none => .nilIface
  | some c => .iface 0 (.int .i64 c)
theorem errW_none : errW none = .nilIface := rfl
theorem errW_some (c : Int) : errW (some c) = .iface 0 (.int .i64 c) := rfl
theorem info5 : (Tryd.prog.info? 5).map (fun i => (i.zero, i.size, i.bytes)) = some (some (.int .u8 0), 1, 1) := by kernel_rfl
end Go.Proofs.YtggpejjfgphihaaDoor.D
end

section
namespace Go.Proofs.YtggpejjfgphihaaDoor.D
open Go.Proofs.YtggpejjfgphihaaDoor.Given Go.RowKit Go.Proofs.YtggpejjfgphihaaDoorW.PrintWords Go.Proofs.YtggpejjfgphihaaDoorW.PrintLast Go.Proofs.YtggpejjfgphihaaDoorW.PrintMore
attribute [local go_sem] max2_int min2_int max_two min_two max_three min_three max_four min_four
set_option linter.unusedVariables false
set_option linter.unusedSimpArgs false
mutual
def marlineref02_More.j0 : Nat → Int → List Int → Int → Option (Int)
  | 0, _, _, _ => none
  | k + 1, x1, x2, x7 => marlineref02_More.l0 k x1 x2 x7 0
def marlineref02_More.l0 : Nat → Int → List Int → Int → Int → Option (Int)
  | 0, _, _, _, _ => none
  | k + 1, x1, x2, x7, x8 => if x8 < (x2.length : Int) then (if 0 ≤ x8 then (marlineref02_More.l1 k (Go.bits .xor .u32 x1 ((rd x2 x8) % 4294967296)) x2 x7 x8 0) else (none)) else (some x1)
def marlineref02_More.l1 : Nat → Int → List Int → Int → Int → Int → Option (Int)
  | 0, _, _, _, _, _ => none
  | k + 1, x1, x2, x7, x8, x9 => if x9 < 8 then (if (Int.tmod x1 2) = 1 then (marlineref02_More.l1 k (Go.bits .xor .u32 ((Int.tdiv x1 2) % 4294967296) x7) x2 x7 x8 (wrap64 (x9 + 1))) else (marlineref02_More.l1 k ((Int.tdiv x1 2) % 4294967296) x2 x7 x8 (wrap64 (x9 + 1)))) else (marlineref02_More.l0 k x1 x2 x7 (wrap64 (x8 + 1)))
end
def marlineref02_More.f (k : Nat) (a0 : Bool) (a1 : Int) (l2 : List Int) : Option (Int) := if a0 = true then (marlineref02_More.j0 k a1 l2 3988292384) else (marlineref02_More.j0 k (Int.tmod a1 65536) l2 33800)
set_option maxHeartbeats 8000000 in
set_option maxRecDepth 100000 in
theorem marlineref02_More.calls (k : Nat) (a0 : Bool) (a1 : Int) (A2 : Option Addr) (c2 : Nat) (l2 : List Int) (r : Int) (w : World) (hr2 : Kd.C (Kd.int .u8) w A2 l2.length l2) (hc2 : l2.length ≤ c2) (h : marlineref02_More.f k a0 a1 l2 = some r) :
    Calls Tryd.prog 38 #[.bool a0, .int .u32 a1, .slice A2 l2.length c2] w fun e w' => e = .returned (.int .u32 r) ∧ Drawn0 w w' := by
  have HR2 := Aside0.mk hr2
  have HC2 := Aside0.mk hc2
  clear hr2 hc2
  have H : (if a0 = true then (marlineref02_More.j0 k a1 l2 3988292384) else (marlineref02_More.j0 k (Int.tmod a1 65536) l2 33800)) = some r := h
  clear h
  have HC4 := Aside0.mk H
  clear H
  go_enter Tryd.func38, Tryd.ntmps38
  go_upto_if 10 with (fail)
  go_cut [1, 7] (fun v1 v7 wc => ∃ (kq : Nat) (x1_3 : Int) (x7_3 : Int), v1 = .int .u32 x1_3 ∧ v7 = .int .u32 x7_3 ∧ Aside0 (marlineref02_More.j0 kq x1_3 l2 x7_3 = some r) ∧ Aside0 (kq ≤ k) ∧ Drawn0 w wc)
  case first =>
    have H := HC4.out
    clear HC4
    by_cases c5 : a0 = true
    · subst c5
      have H1 : (marlineref02_More.j0 k a1 l2 3988292384) = some r := by rw [if_pos rfl] at H; exact H
      clear H
      have H := H1
      clear H1
      have H' := Aside0.mk H
      clear H
      go_wp2
      go_meet
      case rel => exact ⟨_, (a1), (3988292384), (by first | rfl | (simp; done) | (simp [*]; done)), (by first | rfl | (simp; done) | (simp [*]; done)), H', ⟨by first | omega | exact Nat.le_refl _⟩, by repeat (first | exact Drawn0.refl _ | apply Drawn0.step)⟩
    · replace c5 := Bool.eq_false_iff.mpr c5
      subst c5
      have H1 : (marlineref02_More.j0 k (Int.tmod a1 65536) l2 33800) = some r := by rw [if_neg (show ¬ (false = true) by decide)] at H; exact H
      clear H
      have H := H1
      clear H1
      have H' := Aside0.mk H
      clear H
      go_wp2
      go_meet
      case rel => exact ⟨_, (Int.tmod a1 65536), (33800), (by first | rfl | (simp; done) | (simp [*]; done)), (by first | rfl | (simp; done) | (simp [*]; done)), H', ⟨by first | omega | exact Nat.le_refl _⟩, by repeat (first | exact Drawn0.refl _ | apply Drawn0.step)⟩
  case rest =>
    clear HC4
    try clear c2
    try clear p2
    try clear c3
    try clear c5
    obtain ⟨kq, x1_3, x7_3, rfl, rfl, HA, HJ3, ⟨mc3, rfl⟩⟩ := hcut
    cases kq with
    | zero => exact absurd HA.out (by simp [marlineref02_More.j0])
    | succ kj3 =>
      have H := HA.out
      clear HA
      simp only [marlineref02_More.j0] at H
      have H' := Aside0.mk H
      clear H
      go_wp2
      go_loopg [1, 8] kj3 (fun kq v1 v8 w' => ∃ (x1_2 : Int) (x8_2 : Int), v1 = .int .u32 x1_2 ∧ v8 = .int .i64 x8_2 ∧ Aside0 (marlineref02_More.l0 kq x1_2 l2 x7_3 x8_2 = some r) ∧ Aside0 (kq ≤ kj3) ∧ Drawn0 w w')
      case atStart => exact ⟨(x1_3), (0), (by first | rfl | (simp; done) | (simp [*]; done)), (by first | rfl | (simp; done) | (simp [*]; done)), H', ⟨Nat.le_refl _⟩, by repeat (first | exact Drawn0.refl _ | apply Drawn0.step)⟩
      case round =>
        clear H'
        try clear c2
        try clear p2
        try clear c3
        try clear c5
        try clear p2
        obtain ⟨x1_2, x8_2, rfl, rfl, HA, HK2, ⟨m2, rfl⟩⟩ := hrel
        cases gk with
        | zero => exact absurd HA.out (by simp [marlineref02_More.l0])
        | succ k2 =>
          have H := HA.out
          clear HA
          simp only [marlineref02_More.l0] at H
          by_cases c6 : x8_2 < (l2.length : Int)
          · rw [if_pos c6] at H
            have c6b0 : decide (x8_2 < (l2.length : Int)) = true := decide_eq_true c6
            clear c6
            by_cases c7 : 0 ≤ x8_2
            · rw [if_pos c7] at H
              have c7b0 : decide (0 ≤ x8_2) = true := decide_eq_true c7
              clear c7
              have H' := Aside0.mk H
              clear H
              have p118 : 0 ≤ (x8_2 : Int) := of_decide_eq_true (by first | (with_reducible assumption) | assumption)
              have q118 : x8_2 < (l2.length : Int) := of_decide_eq_true (by first | (with_reducible assumption) | assumption)
              obtain ⟨ad118, e118, hx118_0⟩ := Kd.at_int HR2.out x8_2 p118 q118
              cases e118
              replace p118 := eq_true p118
              replace q118 := eq_true q118
              go_wp2
              go_loopg [1, 9] k2 (fun kq v1 v9 w' => ∃ (x1_3 : Int) (x9_3 : Int), v1 = .int .u32 x1_3 ∧ v9 = .int .i64 x9_3 ∧ Aside0 (marlineref02_More.l1 kq x1_3 l2 x7_3 x8_2 x9_3 = some r) ∧ Aside0 (kq ≤ k2) ∧ Drawn0 w w')
              case atStart => exact ⟨(Go.bits .xor .u32 x1_2 ((rd l2 x8_2) % 4294967296)), (0), (by first | rfl | (simp; done) | (simp [*]; done)), (by first | rfl | (simp; done) | (simp [*]; done)), H', ⟨Nat.le_refl _⟩, by repeat (first | exact Drawn0.refl _ | apply Drawn0.step)⟩
              case round =>
                clear H'
                try clear p1
                try clear q1
                try clear hx1
                try clear c2
                try clear p2
                try clear c3
                try clear c5
                try clear c6
                try clear c6b0
                try clear c7
                try clear c7b0
                try clear hx118_0
                try clear p118
                try clear p2
                try clear q118
                obtain ⟨x1_3, x9_3, rfl, rfl, HA, HK3, ⟨m3, rfl⟩⟩ := hrel
                cases gk with
                | zero => exact absurd HA.out (by simp [marlineref02_More.l1])
                | succ k3 =>
                  have H := HA.out
                  clear HA
                  simp only [marlineref02_More.l1] at H
                  by_cases c8 : x9_3 < 8
                  · rw [if_pos c8] at H
                    have c8b0 : decide (x9_3 < 8) = true := decide_eq_true c8
                    clear c8
                    by_cases c9 : (Int.tmod x1_3 2) = 1
                    · rw [if_pos c9] at H
                      have c9b0 : ((Int.tmod x1_3 2) == 1) = true := beq_iff_eq.mpr c9
                      have c9b1 : ((Int.tmod x1_3 2) != 1) = false := bne_eq_false_iff_eq.mpr c9
                      clear c9
                      have H' := Aside0.mk H
                      clear H
                      go_wp2
                      go_roundg k3
                      case measure => have := HJ3.out; have := HK2.out; have := HK3.out; omega
                      case rel => exact ⟨(Go.bits .xor .u32 ((Int.tdiv x1_3 2) % 4294967296) x7_3), (wrap64 (x9_3 + 1)), (by first | rfl | (simp; done) | (simp [*]; done)), (by first | rfl | (simp; done) | (simp [*]; done)), H', ⟨by have := HJ3.out; have := HK2.out; have := HK3.out; omega⟩, by repeat (first | exact Drawn0.refl _ | apply Drawn0.step)⟩
                    · rw [if_neg c9] at H
                      have c9b0 : ((Int.tmod x1_3 2) == 1) = false := beq_eq_false_iff_ne.mpr c9
                      have c9b1 : ((Int.tmod x1_3 2) != 1) = true := bne_iff_ne.mpr c9
                      have H' := Aside0.mk H
                      clear H
                      go_wp2
                      go_roundg k3
                      case measure => have := HJ3.out; have := HK2.out; have := HK3.out; omega
                      case rel => exact ⟨((Int.tdiv x1_3 2) % 4294967296), (wrap64 (x9_3 + 1)), (by first | rfl | (simp; done) | (simp [*]; done)), (by first | rfl | (simp; done) | (simp [*]; done)), H', ⟨by have := HJ3.out; have := HK2.out; have := HK3.out; omega⟩, by repeat (first | exact Drawn0.refl _ | apply Drawn0.step)⟩
                  · rw [if_neg c8] at H
                    have c8b0 : decide (x9_3 < 8) = false := decide_eq_false c8
                    clear c8
                    have H' := Aside0.mk H
                    clear H
                    go_wp2
                    go_roundg k3
                    case measure => have := HJ3.out; have := HK2.out; have := HK3.out; omega
                    case rel => exact ⟨(x1_3), (wrap64 (x8_2 + 1)), (by first | rfl | (simp; done) | (simp [*]; done)), (by first | rfl | (simp; done) | (simp [*]; done)), H', ⟨by have := HJ3.out; have := HK2.out; have := HK3.out; omega⟩, by repeat (first | exact Drawn0.refl _ | apply Drawn0.step)⟩
            · rw [if_neg c7] at H
              exact absurd H (by simp)
          · rw [if_neg c6] at H
            have c6b0 : decide (x8_2 < (l2.length : Int)) = false := decide_eq_false c6
            clear c6
            obtain rfl := Option.some.inj H
            go_wp2
            go_ret
            exact ⟨by first | rfl | (simp; done) | (simp [*]; done), by repeat (first | exact Drawn0.refl _ | apply Drawn0.step)⟩
end Go.Proofs.YtggpejjfgphihaaDoor.D
end

section
namespace Go.Proofs.YtggpejjfgphihaaDoor.D
open Go.Proofs.YtggpejjfgphihaaDoor.Given Go.RowKit Go.Proofs.YtggpejjfgphihaaDoorW.PrintWords Go.Proofs.YtggpejjfgphihaaDoorW.PrintLast Go.Proofs.YtggpejjfgphihaaDoorW.PrintMore
attribute [local go_sem] max2_int min2_int max_two min_two max_three min_three max_four min_four
set_option linter.unusedVariables false
set_option linter.unusedSimpArgs false
def marlineref01_Equal.l0 : Nat → List Int → List Int → Int → Option (Bool)
  | 0, _, _, _ => none
  | k + 1, x0, x1, x5 => if x5 < (x0.length : Int) then (if 0 ≤ x5 then (if x5 < (x1.length : Int) then (if (rd x0 x5) = (rd x1 x5) then (marlineref01_Equal.l0 k x0 x1 (wrap64 (x5 + 1))) else (some false)) else (none)) else (none)) else (some true)
def marlineref01_Equal.f (k : Nat) (l0 : List Int) (l1 : List Int) : Option (Bool) := if (l0.length : Int) = (l1.length : Int) then (marlineref01_Equal.l0 k l0 l1 0) else (some false)
set_option maxHeartbeats 8000000 in
set_option maxRecDepth 100000 in
theorem marlineref01_Equal.calls (k : Nat) (A0 : Option Addr) (c0 : Nat) (l0 : List Int) (A1 : Option Addr) (c1 : Nat) (l1 : List Int) (r : Bool) (w : World) (hr0 : Kd.C (Kd.int .u8) w A0 l0.length l0) (hc0 : l0.length ≤ c0) (hr1 : Kd.C (Kd.int .u8) w A1 l1.length l1) (hc1 : l1.length ≤ c1) (h : marlineref01_Equal.f k l0 l1 = some r) :
    Calls Tryd.prog 31 #[.slice A0 l0.length c0, .slice A1 l1.length c1] w fun e w' => e = .returned (.bool r) ∧ Drawn0 w w' := by
  have HR0 := Aside0.mk hr0
  have HC0 := Aside0.mk hc0
  clear hr0 hc0
  have HR1 := Aside0.mk hr1
  have HC1 := Aside0.mk hc1
  clear hr1 hc1
  have H : (if (l0.length : Int) = (l1.length : Int) then (marlineref01_Equal.l0 k l0 l1 0) else (some false)) = some r := h
  clear h
  by_cases c3 : (l0.length : Int) = (l1.length : Int)
  · rw [if_pos c3] at H
    have c3b0 : ((l0.length : Int) == (l1.length : Int)) = true := beq_iff_eq.mpr c3
    have c3b1 : ((l0.length : Int) != (l1.length : Int)) = false := bne_eq_false_iff_eq.mpr c3
    have c3b2 : (l0.length == l1.length) = true := by first | simpa using c3 | (simp at c3 ⊢; omega)
    clear c3
    have H' := Aside0.mk H
    clear H
    go_enter Tryd.func31, Tryd.ntmps31
    go_wp2
    repeat (go_quiet (fail); try go_wp2)
    go_loopg [5] k (fun kq v5 w' => ∃ (x5_1 : Int), v5 = .int .i64 x5_1 ∧ Aside0 (marlineref01_Equal.l0 kq l0 l1 x5_1 = some r) ∧ Aside0 (kq ≤ k) ∧ Drawn0 w w')
    case atStart => exact ⟨(0), (by first | rfl | (simp; done) | (simp [*]; done)), H', ⟨Nat.le_refl _⟩, by repeat (first | exact Drawn0.refl _ | apply Drawn0.step)⟩
    case round =>
      clear H'
      try clear c1
      try clear p2
      try clear c3
      try clear c3b0
      try clear c3b1
      try clear c3b2
      obtain ⟨x5_1, rfl, HA, HK1, ⟨m1, rfl⟩⟩ := hrel
      cases gk with
      | zero => exact absurd HA.out (by simp [marlineref01_Equal.l0])
      | succ k1 =>
        have H := HA.out
        clear HA
        simp only [marlineref01_Equal.l0] at H
        by_cases c4 : x5_1 < (l0.length : Int)
        · rw [if_pos c4] at H
          have c4b0 : decide (x5_1 < (l0.length : Int)) = true := decide_eq_true c4
          clear c4
          by_cases c5 : 0 ≤ x5_1
          · rw [if_pos c5] at H
            have c5b0 : decide (0 ≤ x5_1) = true := decide_eq_true c5
            clear c5
            by_cases c6 : x5_1 < (l1.length : Int)
            · rw [if_pos c6] at H
              have c6b0 : decide (x5_1 < (l1.length : Int)) = true := decide_eq_true c6
              clear c6
              by_cases c7 : (rd l0 x5_1) = (rd l1 x5_1)
              · rw [if_pos c7] at H
                have c7b0 : ((rd l0 x5_1) == (rd l1 x5_1)) = true := beq_iff_eq.mpr c7
                have c7b1 : ((rd l0 x5_1) != (rd l1 x5_1)) = false := bne_eq_false_iff_eq.mpr c7
                clear c7
                have H' := Aside0.mk H
                clear H
                have p163 : 0 ≤ (x5_1 : Int) := of_decide_eq_true (by first | (with_reducible assumption) | assumption)
                have q163 : x5_1 < (l0.length : Int) := of_decide_eq_true (by first | (with_reducible assumption) | assumption)
                obtain ⟨ad163, e163, hx163_0⟩ := Kd.at_int HR0.out x5_1 p163 q163
                cases e163
                replace p163 := eq_true p163
                replace q163 := eq_true q163
                have p164 : 0 ≤ (x5_1 : Int) := of_decide_eq_true (by first | (with_reducible assumption) | assumption)
                have q164 : x5_1 < (l1.length : Int) := of_decide_eq_true (by first | (with_reducible assumption) | assumption)
                obtain ⟨ad164, e164, hx164_0⟩ := Kd.at_int HR1.out x5_1 p164 q164
                cases e164
                replace p164 := eq_true p164
                replace q164 := eq_true q164
                go_wp2
                repeat (go_quiet (fail); try go_wp2)
                go_roundg k1
                case measure => have := HK1.out; omega
                case rel => exact ⟨(wrap64 (x5_1 + 1)), (by first | rfl | (simp; done) | (simp [*]; done)), H', ⟨by have := HK1.out; omega⟩, by repeat (first | exact Drawn0.refl _ | apply Drawn0.step)⟩
              · rw [if_neg c7] at H
                have c7b0 : ((rd l0 x5_1) == (rd l1 x5_1)) = false := beq_eq_false_iff_ne.mpr c7
                have c7b1 : ((rd l0 x5_1) != (rd l1 x5_1)) = true := bne_iff_ne.mpr c7
                obtain rfl := Option.some.inj H
                have p163 : 0 ≤ (x5_1 : Int) := of_decide_eq_true (by first | (with_reducible assumption) | assumption)
                have q163 : x5_1 < (l0.length : Int) := of_decide_eq_true (by first | (with_reducible assumption) | assumption)
                obtain ⟨ad163, e163, hx163_0⟩ := Kd.at_int HR0.out x5_1 p163 q163
                cases e163
                replace p163 := eq_true p163
                replace q163 := eq_true q163
                have p164 : 0 ≤ (x5_1 : Int) := of_decide_eq_true (by first | (with_reducible assumption) | assumption)
                have q164 : x5_1 < (l1.length : Int) := of_decide_eq_true (by first | (with_reducible assumption) | assumption)
                obtain ⟨ad164, e164, hx164_0⟩ := Kd.at_int HR1.out x5_1 p164 q164
                cases e164
                replace p164 := eq_true p164
                replace q164 := eq_true q164
                go_wp2
                repeat (go_quiet (fail); try go_wp2)
                go_ret
                exact ⟨by first | rfl | (simp; done) | (simp [*]; done), by repeat (first | exact Drawn0.refl _ | apply Drawn0.step)⟩
            · rw [if_neg c6] at H
              exact absurd H (by simp)
          · rw [if_neg c5] at H
            exact absurd H (by simp)
        · rw [if_neg c4] at H
          have c4b0 : decide (x5_1 < (l0.length : Int)) = false := decide_eq_false c4
          clear c4
          obtain rfl := Option.some.inj H
          go_wp2
          repeat (go_quiet (fail); try go_wp2)
          go_ret
          exact ⟨by first | rfl | (simp; done) | (simp [*]; done), by repeat (first | exact Drawn0.refl _ | apply Drawn0.step)⟩
  · rw [if_neg c3] at H
    have c3b0 : ((l0.length : Int) == (l1.length : Int)) = false := beq_eq_false_iff_ne.mpr c3
    have c3b1 : ((l0.length : Int) != (l1.length : Int)) = true := bne_iff_ne.mpr c3
    have c3b2 : (l0.length == l1.length) = false := by first | simpa using c3 | (simp at c3 ⊢; omega)
    obtain rfl := Option.some.inj H
    go_enter Tryd.func31, Tryd.ntmps31
    go_wp2
    repeat (go_quiet (fail); try go_wp2)
    go_ret
    exact ⟨by first | rfl | (simp; done) | (simp [*]; done), by repeat (first | exact Drawn0.refl _ | apply Drawn0.step)⟩
def fcs_Size.f (a0 : Bool) : Option (Int) := (fcs_of.f a0).bind fun bt165 => (some bt165.2.2.2)
set_option maxHeartbeats 8000000 in
set_option maxRecDepth 100000 in
theorem fcs_Size.calls (a0 : Bool) (r : Int) (w : World) (hgF : GF w) (h : fcs_Size.f a0 = some r) :
    Calls Tryd.prog 41 #[.bool a0] w fun e w' => e = .returned (.int .i64 r) ∧ Below w.heap.size w w' := by
  have hfd80_3 : ∀ (v0_ v1_ v2_ v3_ : Value) (W_ : World), (Instr.field 80 (.agg #[v0_, v1_, v2_, v3_]) 3).run Tryd.prog W_ = .ok v3_ W_ := fun _ _ _ _ _ => by kernel_rfl
  have HGF := Aside0.mk hgF
  clear hgF
  have HB := Aside0.mk (Below.refl w.heap.size w)
  have H : ((fcs_of.f a0).bind fun bt165 => (some bt165.2.2.2)) = some r := h
  clear h
  replace H := Option.bind_eq_some_iff.mp H
  obtain ⟨⟨t165, t166, t167, t168⟩, A20, H⟩ := H
  replace H : (some t168) = some r := H
  have A2 := Aside0.mk A20
  clear A20
  obtain rfl := Option.some.inj H
  go_enter Tryd.func41, Tryd.ntmps41
  go_wp2_with (first | ((with_reducible refine gate_callee (f := 56) rfl ?_); refine goesL_ (some 4) rfl rfl Tryd.func56 (by kernel_rfl) rfl #[.bool a0] rfl (by (try simp only [List.map_toArray, List.map_cons, List.map_nil]); first | done | rfl | (simp only [List.length_drop, List.length_take]; rfl)) ?_; (with_reducible refine (fcs_of.calls a0 t165 t166 t167 t168 _ ?side1 A2.out).mono ?_); (case side1 => repeat (first | exact HGF.out | (with_reducible refine GF_alloc ?_ _) | (with_reducible refine GF_drewN ?_ _) | (with_reducible refine GF_drew ?_))); rintro e w3 ⟨rfl, hb⟩; refine ⟨_, rfl, ?_⟩; have n0_ := Aside0.mk (below_step (by repeat (first | (with_reducible first | exact HB.out | apply below_alloc | apply pw_below_drewN | apply below_drew1) | exact HB.out)) hb); clear HB; have HB := n0_; clear n0_; (try clear hb); (try clear hb2); (try clear hk); (try clear hi)))
  go_ret
  exact ⟨by first | rfl | (simp [errW_none, errW_some] <;> rfl) | (simp [*, errW_none, errW_some] <;> rfl), by repeat (first | (with_reducible first | exact HB.out | apply below_alloc | apply pw_below_drewN | apply below_drew1) | exact HB.out)⟩
def marlineref02_Sum.f (k : Nat) (a0 : Bool) (l1 : List Int) : Option (Int) := if a0 = true then ((marlineref02_More.f k true 4294967295 l1).bind fun t169 => (some ((4294967295 - t169) % 4294967296))) else ((marlineref02_More.f k false 65535 l1).bind fun t170 => (some ((65535 - t170) % 4294967296)))
set_option maxHeartbeats 8000000 in
set_option maxRecDepth 100000 in
theorem marlineref02_Sum.calls (k : Nat) (a0 : Bool) (A1 : Option Addr) (c1 : Nat) (l1 : List Int) (r : Int) (w : World) (hr1 : Kd.C (Kd.int .u8) w A1 l1.length l1) (hc1 : l1.length ≤ c1) (h : marlineref02_Sum.f k a0 l1 = some r) :
    Calls Tryd.prog 43 #[.bool a0, .slice A1 l1.length c1] w fun e w' => e = .returned (.int .u32 r) ∧ Drawn0 w w' := by
  have HR1 := Aside0.mk hr1
  have HC1 := Aside0.mk hc1
  clear hr1 hc1
  have H : (if a0 = true then ((marlineref02_More.f k true 4294967295 l1).bind fun t169 => (some ((4294967295 - t169) % 4294967296))) else ((marlineref02_More.f k false 65535 l1).bind fun t170 => (some ((65535 - t170) % 4294967296)))) = some r := h
  clear h
  by_cases c3 : a0 = true
  · subst c3
    have H1 : ((marlineref02_More.f k true 4294967295 l1).bind fun t169 => (some ((4294967295 - t169) % 4294967296))) = some r := by rw [if_pos rfl] at H; exact H
    clear H
    have H := H1
    clear H1
    replace H := Option.bind_eq_some_iff.mp H
    obtain ⟨t169, A40, H⟩ := H
    replace H : (some ((4294967295 - t169) % 4294967296)) = some r := H
    have A4 := Aside0.mk A40
    clear A40
    obtain rfl := Option.some.inj H
    go_enter Tryd.func43, Tryd.ntmps43
    go_wp2_with (first | ((with_reducible refine gate_callee (f := 38) rfl ?_); refine goesL_ (some 7) rfl rfl Tryd.func38 (by kernel_rfl) rfl #[.bool true, .int .u32 4294967295, .slice A1 l1.length c1] rfl (by (try simp only [List.map_toArray, List.map_cons, List.map_nil]); first | done | rfl | (simp only [List.length_drop, List.length_take]; rfl)) ?_; (with_reducible refine (marlineref02_More.calls k true 4294967295 _ _ l1 t169 _ ?side1 ?side2 A4.out).mono ?_); (case side1 => repeat (first | exact HR1.out | (with_reducible refine Kd.C_alloc ?_ _) | (with_reducible refine Kd.C_drewN ?_ _) | (with_reducible refine Kd.C_drew ?_))); (case side2 => exact HC1.out); rintro e w' ⟨rfl, ⟨nd, rfl⟩⟩; refine ⟨_, rfl, ?_⟩))
    go_ret
    exact ⟨by first | rfl | (simp; done) | (simp [*]; done), by repeat (first | exact Drawn0.refl _ | apply Drawn0.step)⟩
  · replace c3 := Bool.eq_false_iff.mpr c3
    subst c3
    have H1 : ((marlineref02_More.f k false 65535 l1).bind fun t170 => (some ((65535 - t170) % 4294967296))) = some r := by rw [if_neg (show ¬ (false = true) by decide)] at H; exact H
    clear H
    have H := H1
    clear H1
    replace H := Option.bind_eq_some_iff.mp H
    obtain ⟨t170, A50, H⟩ := H
    replace H : (some ((65535 - t170) % 4294967296)) = some r := H
    have A5 := Aside0.mk A50
    clear A50
    obtain rfl := Option.some.inj H
    go_enter Tryd.func43, Tryd.ntmps43
    go_wp2_with (first | ((with_reducible refine gate_callee (f := 38) rfl ?_); refine goesL_ (some 10) rfl rfl Tryd.func38 (by kernel_rfl) rfl #[.bool false, .int .u32 65535, .slice A1 l1.length c1] rfl (by (try simp only [List.map_toArray, List.map_cons, List.map_nil]); first | done | rfl | (simp only [List.length_drop, List.length_take]; rfl)) ?_; (with_reducible refine (marlineref02_More.calls k false 65535 _ _ l1 t170 _ ?side1 ?side2 A5.out).mono ?_); (case side1 => repeat (first | exact HR1.out | (with_reducible refine Kd.C_alloc ?_ _) | (with_reducible refine Kd.C_drewN ?_ _) | (with_reducible refine Kd.C_drew ?_))); (case side2 => exact HC1.out); rintro e w' ⟨rfl, ⟨nd, rfl⟩⟩; refine ⟨_, rfl, ?_⟩))
    go_ret
    exact ⟨by first | rfl | (simp; done) | (simp [*]; done), by repeat (first | exact Drawn0.refl _ | apply Drawn0.step)⟩
def marlineref02_Trailer.f (k : Nat) (a0 : Bool) (l1 : List Int) : Option (List Int) := (marlineref02_Sum.f k a0 l1).bind fun t171 => ((some (([(Int.tmod t171 256) % 256, ((Int.tdiv t171 256) % 4294967296) % 256] : List Int) : List Int)).bind fun y172 => (if a0 = true then ((some (([((Int.tdiv t171 65536) % 4294967296) % 256, ((Int.tdiv t171 16777216) % 4294967296) % 256] : List Int) : List Int)).bind fun y175 => (if y172.length + y175.length < 140737488355328 then (some (y172 ++ y175)) else (none))) else (some y172)))
set_option maxHeartbeats 8000000 in
set_option maxRecDepth 100000 in
theorem marlineref02_Trailer.calls (k : Nat) (a0 : Bool) (A1 : Option Addr) (c1 : Nat) (l1 : List Int) (r : List Int) (w : World) (hr1 : Kd.C (Kd.int .u8) w A1 l1.length l1) (hc1 : l1.length ≤ c1) (h : marlineref02_Trailer.f k a0 l1 = some r) :
    Calls Tryd.prog 44 #[.bool a0, .slice A1 l1.length c1] w fun e w' => ∃ v0_ : Value, e = .returned (v0_) ∧ Kd.R (Kd.int .u8) 5 w' w.heap.size (fun _ => True) v0_ r ∧ Below w.heap.size w w' := by
  have HR1 := Aside0.mk hr1
  have HC1 := Aside0.mk hc1
  clear hr1 hc1
  have HB := Aside0.mk (Below.refl w.heap.size w)
  have H : ((marlineref02_Sum.f k a0 l1).bind fun t171 => ((some (([(Int.tmod t171 256) % 256, ((Int.tdiv t171 256) % 4294967296) % 256] : List Int) : List Int)).bind fun y172 => (if a0 = true then ((some (([((Int.tdiv t171 65536) % 4294967296) % 256, ((Int.tdiv t171 16777216) % 4294967296) % 256] : List Int) : List Int)).bind fun y175 => (if y172.length + y175.length < 140737488355328 then (some (y172 ++ y175)) else (none))) else (some y172)))) = some r := h
  clear h
  replace H := Option.bind_eq_some_iff.mp H
  obtain ⟨t171, A30, H⟩ := H
  replace H : ((some (([(Int.tmod t171 256) % 256, ((Int.tdiv t171 256) % 4294967296) % 256] : List Int) : List Int)).bind fun y172 => (if a0 = true then ((some (([((Int.tdiv t171 65536) % 4294967296) % 256, ((Int.tdiv t171 16777216) % 4294967296) % 256] : List Int) : List Int)).bind fun y175 => (if y172.length + y175.length < 140737488355328 then (some (y172 ++ y175)) else (none))) else (some y172))) = some r := H
  have A3 := Aside0.mk A30
  clear A30
  obtain ⟨y172, hy172⟩ : ∃ y_ : List Int, y_ = (([(Int.tmod t171 256) % 256, ((Int.tdiv t171 256) % 4294967296) % 256] : List Int)) := ⟨_, rfl⟩
  replace H : (if a0 = true then ((some (([((Int.tdiv t171 65536) % 4294967296) % 256, ((Int.tdiv t171 16777216) % 4294967296) % 256] : List Int) : List Int)).bind fun y175 => (if y172.length + y175.length < 140737488355328 then (some (y172 ++ y175)) else (none))) else (some y172)) = some r := by first | (rw [hy172]; with_reducible exact H) | (have H2_ := (Option.bind_some _ _).symm.trans H; rw [hy172]; with_reducible exact H2_) | (have H2_ := (Option.bind_some _ _).symm.trans H; with_reducible exact H2_) | with_reducible exact H | (rw [hy172]; exact H) | exact H
  have Ny172 := Aside0.mk hy172
  clear hy172
  by_cases c4 : a0 = true
  · subst c4
    have H1 : ((some (([((Int.tdiv t171 65536) % 4294967296) % 256, ((Int.tdiv t171 16777216) % 4294967296) % 256] : List Int) : List Int)).bind fun y175 => (if y172.length + y175.length < 140737488355328 then (some (y172 ++ y175)) else (none))) = some r := by rw [if_pos rfl] at H; exact H
    clear H
    have H := H1
    clear H1
    obtain ⟨y175, hy175⟩ : ∃ y_ : List Int, y_ = (([((Int.tdiv t171 65536) % 4294967296) % 256, ((Int.tdiv t171 16777216) % 4294967296) % 256] : List Int)) := ⟨_, rfl⟩
    replace H : (if y172.length + y175.length < 140737488355328 then (some (y172 ++ y175)) else (none)) = some r := by first | (rw [hy175]; with_reducible exact H) | (have H2_ := (Option.bind_some _ _).symm.trans H; rw [hy175]; with_reducible exact H2_) | (have H2_ := (Option.bind_some _ _).symm.trans H; with_reducible exact H2_) | with_reducible exact H | (rw [hy175]; exact H) | exact H
    have Ny175 := Aside0.mk hy175
    clear hy175
    by_cases c5 : y172.length + y175.length < 140737488355328
    · rw [if_pos c5] at H
      have LMc5 := Aside0.mk c5
      clear c5
      obtain ⟨y178, hy178⟩ : ∃ y_ : List Int, y_ = (y172 ++ y175) := ⟨_, rfl⟩
      replace H : (some y178) = some r := by first | (rw [hy178]; with_reducible exact H) | (have H2_ := (Option.bind_some _ _).symm.trans H; rw [hy178]; with_reducible exact H2_) | (have H2_ := (Option.bind_some _ _).symm.trans H; with_reducible exact H2_) | with_reducible exact H | (rw [hy178]; exact H) | exact H
      have Ny178 := Aside0.mk hy178
      clear hy178
      obtain rfl := Option.some.inj H
      go_enter Tryd.func44, Tryd.ntmps44
      go_wp2_with (first | ((with_reducible refine gate_callee (f := 43) rfl ?_); refine goesL_ (some 9) rfl rfl Tryd.func43 (by kernel_rfl) rfl #[.bool true, .slice A1 l1.length c1] rfl (by (try simp only [List.map_toArray, List.map_cons, List.map_nil]); first | done | rfl | (simp only [List.length_drop, List.length_take]; rfl)) ?_; (with_reducible refine (marlineref02_Sum.calls k true _ _ l1 t171 _ ?side1 ?side2 A3.out).mono ?_); (case side1 => repeat (first | exact HR1.out | (with_reducible refine Kd.C_alloc ?_ _) | (with_reducible refine Kd.C_drewN ?_ _) | (with_reducible refine Kd.C_drew ?_))); (case side2 => exact HC1.out); rintro e w' ⟨rfl, ⟨nd, rfl⟩⟩; refine ⟨_, rfl, ?_⟩) | ((with_reducible refine gate_dst (N := 17) rfl ?_); refine Kd.R_lit (Kd.int .u8) _ 5 ?hg (N := 17) ?hd (xs := ([(Int.tmod t171 256) % 256, ((Int.tdiv t171 256) % 4294967296) % 256] : List Int)) (inner := [.int .u8 ((Int.tmod t171 256) % 256), .int .u8 (((Int.tdiv t171 256) % 4294967296) % 256)]) (ok := fun _ => True) (okp := fun _ => True) ?hr ?hp (fun _ hk => hk) trivial (Below.refl _ _) (Nat.le_refl _) (by simp) ?_; (case hd => rfl); (case hg => rfl); (case hr => first | (go_simp; done) | (go_simp; rfl)); (case hp => exact (Reps.one (show Kd.M (Kd.int .u8) _ _ _ ((Int.tmod t171 256) % 256) [.int .u8 ((Int.tmod t171 256) % 256)] from rfl) (Reps.one (show Kd.M (Kd.int .u8) _ _ _ (((Int.tdiv t171 256) % 4294967296) % 256) [.int .u8 (((Int.tdiv t171 256) % 4294967296) % 256)] from rfl) (Reps.none _ _)))); intro v173 w6 ho7 hb hg_ hnew_; clear hg_ hnew_; (first | rw [← Ny172.out] at ho7 | (simp only [Int.reduceToNat] at ho7; rw [← Ny172.out] at ho7)); have n0_ := Aside0.mk (Kd.R_lower ho7 (below_size (by repeat (first | (with_reducible first | exact HB.out | apply below_alloc | apply pw_below_drewN | apply below_drew1) | exact HB.out)))); have n1_ := Aside0.mk (below_step (by repeat (first | (with_reducible first | exact HB.out | apply below_alloc | apply pw_below_drewN | apply below_drew1) | exact HB.out)) hb); clear HB; have HO174 := n0_; have HB := n1_; clear n0_ n1_; clear hb ho7) | ((with_reducible refine gate_dst (N := 27) rfl ?_); refine Kd.R_lit (Kd.int .u8) _ 5 ?hg (N := 27) ?hd (xs := ([((Int.tdiv t171 65536) % 4294967296) % 256, ((Int.tdiv t171 16777216) % 4294967296) % 256] : List Int)) (inner := [.int .u8 (((Int.tdiv t171 65536) % 4294967296) % 256), .int .u8 (((Int.tdiv t171 16777216) % 4294967296) % 256)]) (ok := fun _ => True) (okp := fun _ => True) ?hr ?hp (fun _ hk => hk) trivial (Below.refl _ _) (Nat.le_refl _) (by simp) ?_; (case hd => rfl); (case hg => rfl); (case hr => first | (go_simp; done) | (go_simp; rfl)); (case hp => exact (Reps.one (show Kd.M (Kd.int .u8) _ _ _ (((Int.tdiv t171 65536) % 4294967296) % 256) [.int .u8 (((Int.tdiv t171 65536) % 4294967296) % 256)] from rfl) (Reps.one (show Kd.M (Kd.int .u8) _ _ _ (((Int.tdiv t171 16777216) % 4294967296) % 256) [.int .u8 (((Int.tdiv t171 16777216) % 4294967296) % 256)] from rfl) (Reps.none _ _)))); intro v176 w8 ho9 hb hg_ hnew_; clear hg_ hnew_; (first | rw [← Ny175.out] at ho9 | (simp only [Int.reduceToNat] at ho9; rw [← Ny175.out] at ho9)); have n0_ := Aside0.mk (Kd.R_elder' (by (with_reducible repeat (first | apply Kd.R_alloc | apply Kd.R_drewN | apply Kd.R_drew)); exact HO174.out) (Kd.R_base ho9) hb); have n1_ := Aside0.mk (Kd.R_lower (Kd.R_new' ho9 (Kd.R_lt (by (with_reducible repeat (first | apply Kd.R_alloc | apply Kd.R_drewN | apply Kd.R_drew)); exact HO174.out))) (below_size (by repeat (first | (with_reducible first | exact HB.out | apply below_alloc | apply pw_below_drewN | apply below_drew1) | exact HB.out)))); have n2_ := Aside0.mk (below_step (by repeat (first | (with_reducible first | exact HB.out | apply below_alloc | apply pw_below_drewN | apply below_drew1) | exact HB.out)) hb); clear HO174; clear HB; have HO174 := n0_; have HO177 := n1_; have HB := n2_; clear n0_ n1_ n2_; clear hb ho9; obtain ⟨Ao11, co11, eo11⟩ := Kd.R_slice HO177.out; subst eo11) | ((with_reducible refine gate_builtin (b := .append) (xs := #[.tmp 19, .tmp 27]) rfl ?_); at_builtin; refine Kd.R_append_rows (Kd.int .u8) (w0 := w) w.heap.size rfl (.tmp 19) (.tmp 27) 35 5 (.int .u8 0) 1 rfl Tryd.underlying35 info5 rfl (by decide) (by omega) v173 y172 y175 _ _ _ (fun k_ => some k_ ≠ (.slice Ao11 y175.length co11 : Value).ownBlock) (fun _ => False) rfl rfl ?aO ?aR (fun _ _ h => h) (fun _ h => h.elim) ?aF ?aB ?aS ?aL ?_; (case aR => repeat (first | exact (Kd.R_reads' HO177.out).2.2 | (with_reducible refine Kd.C_alloc ?_ _) | (with_reducible refine Kd.C_drewN ?_ _) | (with_reducible refine Kd.C_drew ?_))); (case aB => exact (by repeat (first | (with_reducible first | exact HB.out | apply below_alloc | apply pw_below_drewN | apply below_drew1) | exact HB.out))); (case aF => exact (fun k_ hk => Kd.fresh' (Kd.R_lt (by (with_reducible repeat (first | apply Kd.R_alloc | apply Kd.R_drewN | apply Kd.R_drew)); exact HO177.out)) k_ hk)); (case aO => exact (by (with_reducible repeat (first | apply Kd.R_alloc | apply Kd.R_drewN | apply Kd.R_drew)); exact Kd.R_mono HO174.out (fun _ hk => hk.2))); (case aS => exact (below_size (by repeat (first | (with_reducible first | exact HB.out | apply below_alloc | apply pw_below_drewN | apply below_drew1) | exact HB.out)))); (case aL => have := LMc5.out; omega); intro v179 w10 ho hb hg hat; rw [← Ny178.out] at ho; have n0_ := Aside0.mk (Kd.R_after (ok := (fun _ => True)) (by (with_reducible repeat (first | apply Kd.R_alloc | apply Kd.R_drewN | apply Kd.R_drew)); exact HO177.out) hg hat); have n1_ := Aside0.mk (hb); have n2_ := Aside0.mk (ho); clear HO177; clear HB; clear HO174; have HO177 := n0_; have HB := n1_; have HO180 := n2_; clear n0_ n1_ n2_; clear ho hb hg hat))
      go_ret
      exact ⟨_, by first | rfl | (simp [errW_none, errW_some] <;> rfl) | (simp [*, errW_none, errW_some] <;> rfl), by (with_reducible repeat (first | apply Kd.R_alloc | apply Kd.R_drewN | apply Kd.R_drew)); exact Kd.R_mono HO180.out (fun _ hk => trivial), by repeat (first | (with_reducible first | exact HB.out | apply below_alloc | apply pw_below_drewN | apply below_drew1) | exact HB.out)⟩
    · rw [if_neg c5] at H
      exact absurd H (by simp)
  · replace c4 := Bool.eq_false_iff.mpr c4
    subst c4
    have H1 : (some y172) = some r := by rw [if_neg (show ¬ (false = true) by decide)] at H; exact H
    clear H
    have H := H1
    clear H1
    obtain rfl := Option.some.inj H
    go_enter Tryd.func44, Tryd.ntmps44
    go_wp2_with (first | ((with_reducible refine gate_callee (f := 43) rfl ?_); refine goesL_ (some 9) rfl rfl Tryd.func43 (by kernel_rfl) rfl #[.bool false, .slice A1 l1.length c1] rfl (by (try simp only [List.map_toArray, List.map_cons, List.map_nil]); first | done | rfl | (simp only [List.length_drop, List.length_take]; rfl)) ?_; (with_reducible refine (marlineref02_Sum.calls k false _ _ l1 t171 _ ?side1 ?side2 A3.out).mono ?_); (case side1 => repeat (first | exact HR1.out | (with_reducible refine Kd.C_alloc ?_ _) | (with_reducible refine Kd.C_drewN ?_ _) | (with_reducible refine Kd.C_drew ?_))); (case side2 => exact HC1.out); rintro e w' ⟨rfl, ⟨nd, rfl⟩⟩; refine ⟨_, rfl, ?_⟩) | ((with_reducible refine gate_dst (N := 17) rfl ?_); refine Kd.R_lit (Kd.int .u8) _ 5 ?hg (N := 17) ?hd (xs := ([(Int.tmod t171 256) % 256, ((Int.tdiv t171 256) % 4294967296) % 256] : List Int)) (inner := [.int .u8 ((Int.tmod t171 256) % 256), .int .u8 (((Int.tdiv t171 256) % 4294967296) % 256)]) (ok := fun _ => True) (okp := fun _ => True) ?hr ?hp (fun _ hk => hk) trivial (Below.refl _ _) (Nat.le_refl _) (by simp) ?_; (case hd => rfl); (case hg => rfl); (case hr => first | (go_simp; done) | (go_simp; rfl)); (case hp => exact (Reps.one (show Kd.M (Kd.int .u8) _ _ _ ((Int.tmod t171 256) % 256) [.int .u8 ((Int.tmod t171 256) % 256)] from rfl) (Reps.one (show Kd.M (Kd.int .u8) _ _ _ (((Int.tdiv t171 256) % 4294967296) % 256) [.int .u8 (((Int.tdiv t171 256) % 4294967296) % 256)] from rfl) (Reps.none _ _)))); intro v173 w12 ho13 hb hg_ hnew_; clear hg_ hnew_; (first | rw [← Ny172.out] at ho13 | (simp only [Int.reduceToNat] at ho13; rw [← Ny172.out] at ho13)); have n0_ := Aside0.mk (Kd.R_lower ho13 (below_size (by repeat (first | (with_reducible first | exact HB.out | apply below_alloc | apply pw_below_drewN | apply below_drew1) | exact HB.out)))); have n1_ := Aside0.mk (below_step (by repeat (first | (with_reducible first | exact HB.out | apply below_alloc | apply pw_below_drewN | apply below_drew1) | exact HB.out)) hb); clear HB; have HO174 := n0_; have HB := n1_; clear n0_ n1_; clear hb ho13))
    go_ret
    exact ⟨_, by first | rfl | (simp [errW_none, errW_some] <;> rfl) | (simp [*, errW_none, errW_some] <;> rfl), by (with_reducible repeat (first | apply Kd.R_alloc | apply Kd.R_drewN | apply Kd.R_drew)); exact HO174.out, by repeat (first | (with_reducible first | exact HB.out | apply below_alloc | apply pw_below_drewN | apply below_drew1) | exact HB.out)⟩
def marlineref02_Size.f (a0 : Bool) : Option (Int) := if a0 = true then (some 4) else (some 2)
set_option maxHeartbeats 8000000 in
set_option maxRecDepth 100000 in
theorem marlineref02_Size.calls (a0 : Bool) (r : Int) (w : World) (h : marlineref02_Size.f a0 = some r) :
    Calls Tryd.prog 46 #[.bool a0] w fun e w' => e = .returned (.int .i64 r) ∧ Drawn0 w w' := by
  have H : (if a0 = true then (some 4) else (some 2)) = some r := h
  clear h
  by_cases c2 : a0 = true
  · subst c2
    have H1 : (some 4) = some r := by rw [if_pos rfl] at H; exact H
    clear H
    have H := H1
    clear H1
    obtain rfl := Option.some.inj H
    go_enter Tryd.func46, Tryd.ntmps46
    go_wp2
    go_ret
    exact ⟨by first | rfl | (simp; done) | (simp [*]; done), by repeat (first | exact Drawn0.refl _ | apply Drawn0.step)⟩
  · replace c2 := Bool.eq_false_iff.mpr c2
    subst c2
    have H1 : (some 2) = some r := by rw [if_neg (show ¬ (false = true) by decide)] at H; exact H
    clear H
    have H := H1
    clear H1
    obtain rfl := Option.some.inj H
    go_enter Tryd.func46, Tryd.ntmps46
    go_wp2
    go_ret
    exact ⟨by first | rfl | (simp; done) | (simp [*]; done), by repeat (first | exact Drawn0.refl _ | apply Drawn0.step)⟩
end Go.Proofs.YtggpejjfgphihaaDoor.D
end

section
namespace Go.Proofs.YtggpejjfgphihaaDoor.Pu
open Go.RowKit Go.Proofs.YtggpejjfgphihaaDoorW.PrintWords
open Go.Proofs.YtggpejjfgphihaaDoor.Given Go.Proofs.YtggpejjfgphihaaDoor.D
set_option linter.unusedVariables false
def ofN (B : List Nat) : List Int := B.map fun (n : Nat) => (n : Int)
theorem ofN_length (B : List Nat) : (ofN B).length = B.length := by simp [ofN]
theorem ofN_toNat (B : List Nat) : (ofN B).map Int.toNat = B := by
  induction B with
  | nil => rfl
  | cons c B ih => simp only [ofN, List.map_cons] at ih ⊢; rw [ih]; rfl
theorem ofN_append (A B : List Nat) : ofN (A ++ B) = ofN A ++ ofN B := by simp [ofN]
theorem ofN_take (n : Nat) (B : List Nat) : (ofN B).take n = ofN (B.take n) := by simp [ofN]
theorem ofN_drop (n : Nat) (B : List Nat) : (ofN B).drop n = ofN (B.drop n) := by simp [ofN]
theorem ofN_ok (B : List Nat) (hB : ∀ x ∈ B, x < 256) : (ofN B).all okByte = true := by
  rw [List.all_eq_true]
  intro x hx
  obtain ⟨y, hy, rfl⟩ := List.mem_map.1 hx
  have := hB y hy
  simp [okByte]; omega
theorem ofN_of {l : List Int} (h : l.all okByte = true) : l = ofN (l.map Int.toNat) := by
  induction l with
  | nil => rfl
  | cons c l ih =>
    have h' := h
    simp only [List.all_cons, Bool.and_eq_true] at h'
    have := h'.1
    simp [okByte] at this
    simp only [ofN, List.map_cons] at ih ⊢
    rw [← ih h'.2]
    congr 1
    omega
theorem ofN_rd (B : List Nat) (i : Nat) (hi : i < B.length) : rd (ofN B) (i : Int) = ((B[i] : Nat) : Int) := by
  simp [rd, ofN, hi]
theorem w64 (n : Nat) (h : n < 9223372036854775808) : wrap64 (n : Int) = (n : Int) := by unfold wrap64; omega
theorem tmod2 (x : Nat) : Int.tmod (x : Int) 2 = ((x % 2 : Nat) : Int) := rfl
theorem tdivN (x : Nat) (n : Nat) : Int.tdiv (x : Int) (n : Int) = ((x / n : Nat) : Int) := rfl
theorem tmodN (x : Nat) (n : Nat) : Int.tmod (x : Int) (n : Int) = ((x % n : Nat) : Int) := rfl
theorem equal_go (A B : List Nat) (hl : A.length = B.length) (hb : A.length < 4611686018427387904) : ∀ (n i k : Nat), A.length = i + n →
    marlineref01_Equal.l0 (k + n + 1) (ofN A) (ofN B) (i : Int) = some (decide (A.drop i = B.drop i)) := by
  intro n
  induction n with
  | zero =>
    intro i k he
    rw [marlineref01_Equal.l0, if_neg (by rw [ofN_length]; omega), List.drop_eq_nil_of_le (by omega), List.drop_eq_nil_of_le (by omega)]; rfl
  | succ n ih =>
    intro i k he
    have ha : i < A.length := by omega
    have hb' : i < B.length := by omega
    rw [show k + (n + 1) + 1 = (k + n + 1) + 1 by omega, marlineref01_Equal.l0, if_pos (by rw [ofN_length]; omega), if_pos (by omega), if_pos (by rw [ofN_length]; omega), ofN_rd A i ha, ofN_rd B i hb']
    rw [show wrap64 ((i : Int) + 1) = ((i + 1 : Nat) : Int) by unfold wrap64; omega, ih (i + 1) k (by omega), List.drop_eq_getElem_cons ha, List.drop_eq_getElem_cons hb']
    by_cases h : A[i] = B[i]
    · rw [if_pos (by omega)]; simp only [h, List.cons.injEq, true_and]
    · rw [if_neg (by omega)]; simp only [List.cons.injEq, h, false_and, decide_false]
theorem r_Equal (k : Nat) (A B : List Nat) (hb : A.length < 4611686018427387904) (hk : A.length + 1 ≤ k) :
    marlineref01_Equal.f k (ofN A) (ofN B) = some (decide (A = B)) := by
  obtain ⟨m, rfl⟩ : ∃ m, k = m + A.length + 1 := ⟨k - (A.length + 1), by omega⟩
  unfold marlineref01_Equal.f
  rw [ofN_length, ofN_length]
  by_cases h : A.length = B.length
  · rw [if_pos (by omega)]
    exact equal_go A B h hb A.length 0 m (by omega)
  · rw [if_neg (by omega)]
    have : A ≠ B := fun e => h (by rw [e])
    simp [this]
end Go.Proofs.YtggpejjfgphihaaDoor.Pu
end

section
namespace Go.Proofs.YtggpejjfgphihaaDoor.H
open Go.Proofs.YtggpejjfgphihaaDoor.Given Go.Proofs.YtggpejjfgphihaaDoor.D Go.RowKit Go.Proofs.YtggpejjfgphihaaDoorW.PrintWords Go.Proofs.YtggpejjfgphihaaDoorW.PrintLast Go.Proofs.YtggpejjfgphihaaDoorW.PrintMore
attribute [local go_sem] max2_int min2_int max_two min_two max_three min_three max_four min_four
set_option linter.unusedVariables false
set_option linter.unusedSimpArgs false
def errW : Option Int → Value
  | none => .nilIface
  | some c => .iface 0 (.int .i64 c)
theorem errW_none : errW none = .nilIface := rfl
theorem errW_some (c : Int) : errW (some c) = .iface 0 (.int .i64 c) := rfl
theorem info5 : (Tryd.prog.info? 5).map (fun i => (i.zero, i.size, i.bytes)) = some (some (.int .u8 0), 1, 1) := by kernel_rfl
def rd_L1 (xs : List (List Int)) (i : Int) : (List Int) := xs.getD i.toNat ([] : List Int)
theorem at_L1 {w : World} {A : Option Addr} {n : Nat} {xs : List (List Int)} (h : Kd.C (Kd.slice 5 (Kd.int .u8)) w A n xs) (i : Int) (h0 : 0 ≤ i) (h1 : i < n) : ∃ ad A0 c0, A = some ad ∧ w.cell? (ad.add i.toNat) = some (.slice A0 (rd_L1 xs i).length c0) ∧ (rd_L1 xs i).length ≤ c0 ∧ (Kd.int .u8).C w A0 (rd_L1 xs i).length (rd_L1 xs i) := by
  obtain ⟨ad, c, e, _, hK, hc0⟩ := Kd.C_get h ([] : List Int) i h0 h1
  have hc : ∀ j u, c[j]? = some u → w.cell? (ad.add (i.toNat * 1 + j)) = some u := hc0
  obtain ⟨A0, c0, rfl, l0, g0⟩ := hK
  exact ⟨ad, A0, c0, e, by have hq := hc 0 _ rfl; rwa [Nat.mul_one, Nat.add_zero] at hq, l0, g0⟩
end Go.Proofs.YtggpejjfgphihaaDoor.H
end

section
namespace Go.Proofs.YtggpejjfgphihaaDoor.H
open Go.Proofs.YtggpejjfgphihaaDoor.Given Go.Proofs.YtggpejjfgphihaaDoor.D Go.RowKit Go.Proofs.YtggpejjfgphihaaDoorW.PrintWords Go.Proofs.YtggpejjfgphihaaDoorW.PrintLast Go.Proofs.YtggpejjfgphihaaDoorW.PrintMore
attribute [local go_sem] max2_int min2_int max_two min_two max_three min_three max_four min_four
set_option linter.unusedVariables false
set_option linter.unusedSimpArgs false
def wire_Put.l0 : Nat → List Int → Int → Int → Option (List Int)
  | 0, _, _, _ => none
  | k + 1, x0, x1, x7 => if x7 ≥ 0 then (if 0 ≤ (wrap64 (8 * x7)) then (if x0.length < 140737488355328 then (wire_Put.l0 k (x0 ++ [(shr .u64 x1 (wrap64 (8 * x7))) % 256]) x1 (wrap64 (x7 - 1))) else (none)) else (none)) else (some x0)
def wire_Put.f (k : Nat) (l0 : List Int) (a1 : Int) (a2 : Int) : Option (List Int) := wire_Put.l0 k l0 a1 (wrap64 (a2 - 1))
set_option maxHeartbeats 8000000 in
set_option maxRecDepth 100000 in
theorem wire_Put.calls (k : Nat) (P0_ : Nat → Prop) (u9000_ : Value) (l0 : List Int) (a1 : Int) (a2 : Int) (r : List Int) (w0 w : World) (hB : Below w0.heap.size w0 w) (ho0 : Kd.R (Kd.int .u8) 5 w w0.heap.size P0_ u9000_ l0) (h : wire_Put.f k l0 a1 a2 = some r) :
    Calls Tryd.prog 79 #[u9000_, .int .u64 a1, .int .i64 a2] w fun e w' => ∃ v0_ : Value, e = .returned (v0_) ∧ Kd.R (Kd.int .u8) 5 w' w0.heap.size (fun k_ => (P0_ k_ ∨ w.heap.size ≤ k_)) v0_ r ∧ Below w0.heap.size w0 w' ∧ Kept w w' (fun k_ => P0_ k_) := by
  have HO0 := Aside0.mk (show Kd.R (Kd.int .u8) 5 w w0.heap.size (fun k_ => (P0_ k_ ∨ w.heap.size ≤ k_)) u9000_ l0 from Kd.R_mono ho0 (fun k_ hk => (.inl hk)))
  have HK := Aside0.mk (Kept.refl w (fun k_ => P0_ k_))
  have HW0 := Aside0.mk hB.size
  have HB := Aside0.mk hB
  clear hB
  have H : (wire_Put.l0 k l0 a1 (wrap64 (a2 - 1))) = some r := h
  clear h
  have H' := Aside0.mk H
  clear H
  go_enter Tryd.func79, Tryd.ntmps79
  go_wp2
  go_loopg [0, 7] k (fun kq v0 v7 w' => ∃ (x0_1 : List Int) (x7_1 : Int), v7 = .int .i64 x7_1 ∧ Aside0 (wire_Put.l0 kq x0_1 a1 x7_1 = some r) ∧ Aside0 (kq ≤ k) ∧ Aside0 (Kd.R (Kd.int .u8) 5 w' w0.heap.size (fun k_ => (P0_ k_ ∨ w.heap.size ≤ k_)) v0 x0_1) ∧ Aside0 (Kept w w' (fun k_ => P0_ k_)) ∧ Aside0 (Below w0.heap.size w0 w'))
  case atStart => exact ⟨(l0), (wrap64 (a2 - 1)), (by first | rfl | (simp; done) | (simp [*]; done)), H', ⟨Nat.le_refl _⟩, ⟨by (with_reducible repeat (first | apply Kd.R_alloc | apply Kd.R_drewN | apply Kd.R_drew)); exact HO0.out⟩, ⟨by repeat (first | (with_reducible first | exact HK.out | apply Kept.alloc | apply Kept.drewN | apply Kept.drew) | exact HK.out)⟩, ⟨by repeat (first | (with_reducible first | exact HB.out | apply below_alloc | apply pw_below_drewN | apply below_drew1) | exact HB.out)⟩⟩
  case round =>
    clear H'
    try clear p2
    obtain ⟨x0_1, x7_1, rfl, HA, HK1, HO_0, HK, HB⟩ := hrel
    cases gk with
    | zero => exact absurd HA.out (by simp [wire_Put.l0])
    | succ k1 =>
      have H := HA.out
      clear HA
      simp only [wire_Put.l0] at H
      by_cases c4 : x7_1 ≥ 0
      · rw [if_pos c4] at H
        have c4b0 : decide (0 ≤ x7_1) = true := decide_eq_true c4
        clear c4
        obtain ⟨ji5, hji5⟩ : ∃ j_ : Int, (wrap64 (8 * x7_1)) = j_ := ⟨_, rfl⟩
        replace H : (if 0 ≤ (ji5) then (if x0_1.length < 140737488355328 then (wire_Put.l0 k1 (x0_1 ++ [(shr .u64 a1 (ji5)) % 256]) a1 (wrap64 (x7_1 - 1))) else (none)) else (none)) = some r := by first | (rw [hji5] at H; exact H) | (simp only [hji5] at H ⊢; exact H)
        have hji5w : (IntKind.i64.wrap (8 * x7_1)) = ji5 := (i64_w _).trans hji5
        by_cases c6 : 0 ≤ (ji5)
        · rw [if_pos c6] at H
          have c6b0 := eq_true c6
          have c6b1 : decide (0 ≤ (ji5)) = true := decide_eq_true c6
          clear c6
          obtain ⟨ji7, hji7⟩ : ∃ j_ : Int, (shr .u64 a1 (ji5)) = j_ := ⟨_, rfl⟩
          replace H : (if x0_1.length < 140737488355328 then (wire_Put.l0 k1 (x0_1 ++ [(ji7) % 256]) a1 (wrap64 (x7_1 - 1))) else (none)) = some r := by first | (rw [hji7] at H; exact H) | (simp only [hji7] at H ⊢; exact H)
          have hji7_ : (a1 / 2 ^ min (ji5).toNat 64) = ji7 := hji7
          have hji7z : (ji5) ≤ 64 → (a1 / 2 ^ (ji5).toNat) = ji7 := shr_small hji7
          by_cases c8 : x0_1.length < 140737488355328
          · rw [if_pos c8] at H
            have LMc8 := Aside0.mk c8
            clear c8
            obtain ⟨y101, hy101⟩ : ∃ y_ : List Int, y_ = (x0_1 ++ [(ji7) % 256]) := ⟨_, rfl⟩
            replace H : (wire_Put.l0 k1 y101 a1 (wrap64 (x7_1 - 1))) = some r := by first | (rw [hy101]; with_reducible exact H) | (have H2_ := (Option.bind_some _ _).symm.trans H; rw [hy101]; with_reducible exact H2_) | (have H2_ := (Option.bind_some _ _).symm.trans H; with_reducible exact H2_) | with_reducible exact H | (rw [hy101]; exact H) | exact H
            have Ny101 := Aside0.mk hy101
            clear hy101
            have H' := Aside0.mk H
            clear H
            go_wp2_with (first | ((with_reducible refine gate_builtin (b := .append) (xs := #[.tmp 14, .tmp 20]) rfl ?_); at_builtin; refine Kd.R_append (Kd.int .u8) (w0 := w0) w0.heap.size rfl (.tmp 14) (.tmp 20) 35 5 (.int .u8 0) 1 rfl Tryd.underlying35 info5 rfl (by decide) (by omega) u0 x0_1 ((ji7) % 256) [.int .u8 ((ji7) % 256)] (fun k_ => (P0_ k_ ∨ w.heap.size ≤ k_)) (fun _ => False) rfl rfl ?aP (fun _ hk => hk.elim) ?aF ?aO ?aB ?aS ?aL ?_; (case aP => exact rfl); (case aB => exact (by repeat (first | (with_reducible first | exact HB.out | apply below_alloc | apply pw_below_drewN | apply below_drew1) | exact HB.out))); (case aF => exact (fun k_ hk => (.inr (Nat.le_trans (by first | exact HK.out.1 | exact (show Kept w _ (fun k_ => P0_ k_) from by repeat (first | (with_reducible first | exact HK.out | apply Kept.alloc | apply Kept.drewN | apply Kept.drew) | exact HK.out)).1) hk)))); (case aO => exact (by (with_reducible repeat (first | apply Kd.R_alloc | apply Kd.R_drewN | apply Kd.R_drew)); exact HO_0.out)); (case aS => exact (below_size (by repeat (first | (with_reducible first | exact HB.out | apply below_alloc | apply pw_below_drewN | apply below_drew1) | exact HB.out)))); (case aL => have := LMc8.out; omega); intro v102 w9 ho hb hg hat; rw [← Ny101.out] at ho; have n0_ := Aside0.mk (hb); have n1_ := Aside0.mk (Kept.of_grown (S := (fun k_ => P0_ k_)) hg (by repeat (first | (with_reducible first | exact HK.out | apply Kept.alloc | apply Kept.drewN | apply Kept.drew) | exact HK.out)) (fun k_ e_ => (HO_0.out.1 k_ e_))); have n2_ := Aside0.mk (ho); clear HB; clear HK; clear HO_0; have HB := n0_; have HK := n1_; have HO103 := n2_; clear n0_ n1_ n2_; clear ho hb hg hat))
            go_roundg k1
            case measure => have := HK1.out; omega
            case rel => exact ⟨(y101), (wrap64 (x7_1 - 1)), (by first | rfl | (simp; done) | (simp [*]; done)), H', ⟨by have := HK1.out; omega⟩, ⟨by (with_reducible repeat (first | apply Kd.R_alloc | apply Kd.R_drewN | apply Kd.R_drew)); exact HO103.out⟩, ⟨by repeat (first | (with_reducible first | exact HK.out | apply Kept.alloc | apply Kept.drewN | apply Kept.drew) | exact HK.out)⟩, ⟨by repeat (first | (with_reducible first | exact HB.out | apply below_alloc | apply pw_below_drewN | apply below_drew1) | exact HB.out)⟩⟩
          · rw [if_neg c8] at H
            exact absurd H (by simp)
        · rw [if_neg c6] at H
          exact absurd H (by simp)
      · rw [if_neg c4] at H
        have c4b0 : decide (0 ≤ x7_1) = false := decide_eq_false c4
        clear c4
        obtain rfl := Option.some.inj H
        go_wp2
        go_ret
        exact ⟨_, by first | rfl | (simp [errW_none, errW_some] <;> rfl) | (simp [*, errW_none, errW_some] <;> rfl), by (with_reducible repeat (first | apply Kd.R_alloc | apply Kd.R_drewN | apply Kd.R_drew)); exact HO_0.out, by repeat (first | (with_reducible first | exact HB.out | apply below_alloc | apply pw_below_drewN | apply below_drew1) | exact HB.out), by repeat (first | (with_reducible first | exact HK.out | apply Kept.alloc | apply Kept.drewN | apply Kept.drew) | exact HK.out)⟩
def proto_Short.f (a0 : Int) : Option (Bool) := some (decide (a0 < 256))
set_option maxHeartbeats 8000000 in
set_option maxRecDepth 100000 in
theorem proto_Short.calls (a0 : Int) (r : Bool) (w : World) (h : proto_Short.f a0 = some r) :
    Calls Tryd.prog 80 #[.int .u16 a0] w fun e w' => e = .returned (.bool r) ∧ Drawn0 w w' := by
  have H : (some (decide (a0 < 256))) = some r := h
  clear h
  obtain rfl := Option.some.inj H
  go_enter Tryd.func80, Tryd.ntmps80
  go_wp2
  go_ret
  exact ⟨by first | rfl | (simp; done) | (simp [*]; done), by repeat (first | exact Drawn0.refl _ | apply Drawn0.step)⟩
def proto_Put.f (k : Nat) (a0 : Int) (a1 : Bool) : Option (List Int) := (wire_Put.f k ([] : List Int) (IntKind.u64.wrap (a0)) 2).bind fun t104 => (if a1 = true then ((proto_Short.f a0).bind fun t107 => (if t107 = true then (if 1 ≤ (t104.length : Int) then (some (t104.drop (1 : Int).toNat)) else (none)) else (some t104))) else (some t104))
set_option maxHeartbeats 8000000 in
set_option maxRecDepth 100000 in
theorem proto_Put.calls (k : Nat) (a0 : Int) (a1 : Bool) (r : List Int) (w : World) (h : proto_Put.f k a0 a1 = some r) :
    Calls Tryd.prog 60 #[.int .u16 a0, .bool a1] w fun e w' => ∃ v0_ : Value, e = .returned (v0_) ∧ Kd.Q (Kd.int .u8) 5 w' w.heap.size (fun _ => True) v0_ r ∧ Below w.heap.size w w' := by
  have HB := Aside0.mk (Below.refl w.heap.size w)
  have H : ((wire_Put.f k ([] : List Int) (IntKind.u64.wrap (a0)) 2).bind fun t104 => (if a1 = true then ((proto_Short.f a0).bind fun t107 => (if t107 = true then (if 1 ≤ (t104.length : Int) then (some (t104.drop (1 : Int).toNat)) else (none)) else (some t104))) else (some t104))) = some r := h
  clear h
  replace H := Option.bind_eq_some_iff.mp H
  obtain ⟨t104, A30, H⟩ := H
  replace H : (if a1 = true then ((proto_Short.f a0).bind fun t107 => (if t107 = true then (if 1 ≤ (t104.length : Int) then (some (t104.drop (1 : Int).toNat)) else (none)) else (some t104))) else (some t104)) = some r := H
  have A3 := Aside0.mk A30
  clear A30
  by_cases c4 : a1 = true
  · subst c4
    have H1 : ((proto_Short.f a0).bind fun t107 => (if t107 = true then (if 1 ≤ (t104.length : Int) then (some (t104.drop (1 : Int).toNat)) else (none)) else (some t104))) = some r := by rw [if_pos rfl] at H; exact H
    clear H
    have H := H1
    clear H1
    replace H := Option.bind_eq_some_iff.mp H
    obtain ⟨t107, A50, H⟩ := H
    replace H : (if t107 = true then (if 1 ≤ (t104.length : Int) then (some (t104.drop (1 : Int).toNat)) else (none)) else (some t104)) = some r := H
    have A5 := Aside0.mk A50
    clear A50
    by_cases c6 : t107 = true
    · subst c6
      have H1 : (if 1 ≤ (t104.length : Int) then (some (t104.drop (1 : Int).toNat)) else (none)) = some r := by rw [if_pos rfl] at H; exact H
      clear H
      have H := H1
      clear H1
      by_cases c7 : 1 ≤ (t104.length : Int)
      · rw [if_pos c7] at H
        have c7b0 := eq_true c7
        have c7b1 : decide (1 ≤ (t104.length : Int)) = true := decide_eq_true c7
        clear c7
        obtain ⟨y108, hy108⟩ : ∃ y_ : List Int, y_ = (t104.drop (1 : Int).toNat) := ⟨_, rfl⟩
        replace H : (some y108) = some r := by first | (rw [hy108]; with_reducible exact H) | (have H2_ := (Option.bind_some _ _).symm.trans H; rw [hy108]; with_reducible exact H2_) | (have H2_ := (Option.bind_some _ _).symm.trans H; with_reducible exact H2_) | with_reducible exact H | (rw [hy108]; exact H) | exact H
        have Ny108 := Aside0.mk hy108
        clear hy108
        obtain rfl := Option.some.inj H
        go_enter Tryd.func60, Tryd.ntmps60
        go_wp2_with (first | ((with_reducible refine gate_callee (f := 79) rfl ?_); refine goesL_ (some 8) rfl rfl Tryd.func79 (by kernel_rfl) rfl #[.slice none 0 0, .int .u64 (IntKind.u64.wrap (a0)), .int .i64 2] rfl (by (try simp only [List.map_toArray, List.map_cons, List.map_nil]); first | done | rfl | (simp only [List.length_drop, List.length_take]; rfl)) ?_; (refine (wire_Put.calls k (fun k_ => some k_ = (.slice none 0 0 : Value).ownBlock) (.slice none 0 0) ([] : List Int) (IntKind.u64.wrap (a0)) 2 t104 w _ ?side1 ?side2 A3.out).mono ?_); (case side1 => repeat (first | (with_reducible first | exact HB.out | apply below_alloc | apply pw_below_drewN | apply below_drew1) | exact HB.out)); (case side2 => exact Kd.R_nil _ _ _ _ _); rintro e w8 ⟨v105, rfl, ho0, hb, hkp⟩; refine ⟨_, rfl, ?_⟩; have n0_ := Aside0.mk (Kd.R_mono (ok' := fun k_ => True) ho0 (fun k_ hk_ => trivial)); have n1_ := Aside0.mk (hb); clear HB; have HO106 := n0_; have HB := n1_; clear n0_ n1_; (try clear hb); (try clear hkp); (try clear ho0)) | (go_at_call 80; (with_reducible refine (proto_Short.calls a0 true _ A5.out).mono ?_); rintro e w' ⟨rfl, ⟨nd, rfl⟩⟩; obtain ⟨Ao9, co9, eo9⟩ := Kd.R_slice HO106.out; subst eo9; have q10 : (1 : Int) ≤ ((t104.length : Int) : Int) := of_decide_eq_true (by first | (with_reducible assumption) | assumption); obtain ⟨i010, hi010, _, hsz10, _⟩ := info_parts info5; have hcut10 := cut_from (P := Tryd.prog) 35 5 .i64 Tryd.underlying35 hi010 1 hsz10 Ao9 t104.length co9 1 (by omega) q10; have hr10 := Kd.Q_drop (k := (1 : Int).toNat) (Kd.Q_of_R HO106.out) (by omega); obtain ⟨A10, hA10⟩ : ∃ A1, A1 = (if co9 = (1 : Int).toNat then Ao9 else (Ao9 : Option Addr).map (·.add ((1 : Int).toNat * 1))) := ⟨_, rfl⟩; obtain ⟨c10, hc10⟩ : ∃ c1, c1 = co9 - (1 : Int).toNat := ⟨_, rfl⟩; have hy10 : y108.length = t104.length - (1 : Int).toNat := (by rw [Ny108.out, List.length_drop]); rw [← Ny108.out] at hr10; rw [← hy10, ← hA10, ← hc10] at hcut10; replace hr10 : Kd.Q (Kd.int .u8) 5 w8 w.heap.size (fun _ => True) (.slice A10 y108.length c10) y108 := (by rw [hA10, hc10, hy10]; exact hr10); have HE10 : Aside0 ((Value.slice A10 y108.length c10).ownBlock = (.slice Ao9 t104.length co9 : Value).ownBlock) := ⟨by rw [hA10]; split <;> (cases (Ao9 : Option Addr) <;> rfl)⟩; clear hy10 hi010 hsz10 HO106 hA10 hc10; have HO110 := Aside0.mk hr10; clear hr10; replace q10 := eq_true q10))
        go_ret
        exact ⟨_, by first | rfl | (simp [errW_none, errW_some] <;> rfl) | (simp [*, errW_none, errW_some] <;> rfl), by (with_reducible repeat (first | apply Kd.Q_alloc | apply Kd.Q_drewN | apply Kd.Q_drew)); exact HO110.out, by repeat (first | (with_reducible first | exact HB.out | apply below_alloc | apply pw_below_drewN | apply below_drew1) | exact HB.out)⟩
      · rw [if_neg c7] at H
        exact absurd H (by simp)
    · replace c6 := Bool.eq_false_iff.mpr c6
      subst c6
      have H1 : (some t104) = some r := by rw [if_neg (show ¬ (false = true) by decide)] at H; exact H
      clear H
      have H := H1
      clear H1
      obtain rfl := Option.some.inj H
      go_enter Tryd.func60, Tryd.ntmps60
      go_wp2_with (first | ((with_reducible refine gate_callee (f := 79) rfl ?_); refine goesL_ (some 8) rfl rfl Tryd.func79 (by kernel_rfl) rfl #[.slice none 0 0, .int .u64 (IntKind.u64.wrap (a0)), .int .i64 2] rfl (by (try simp only [List.map_toArray, List.map_cons, List.map_nil]); first | done | rfl | (simp only [List.length_drop, List.length_take]; rfl)) ?_; (refine (wire_Put.calls k (fun k_ => some k_ = (.slice none 0 0 : Value).ownBlock) (.slice none 0 0) ([] : List Int) (IntKind.u64.wrap (a0)) 2 t104 w _ ?side1 ?side2 A3.out).mono ?_); (case side1 => repeat (first | (with_reducible first | exact HB.out | apply below_alloc | apply pw_below_drewN | apply below_drew1) | exact HB.out)); (case side2 => exact Kd.R_nil _ _ _ _ _); rintro e w11 ⟨v105, rfl, ho0, hb, hkp⟩; refine ⟨_, rfl, ?_⟩; have n0_ := Aside0.mk (Kd.R_mono (ok' := fun k_ => True) ho0 (fun k_ hk_ => trivial)); have n1_ := Aside0.mk (hb); clear HB; have HO106 := n0_; have HB := n1_; clear n0_ n1_; (try clear hb); (try clear hkp); (try clear ho0)) | (go_at_call 80; (with_reducible refine (proto_Short.calls a0 false _ A5.out).mono ?_); rintro e w' ⟨rfl, ⟨nd, rfl⟩⟩))
      go_ret
      exact ⟨_, by first | rfl | (simp [errW_none, errW_some] <;> rfl) | (simp [*, errW_none, errW_some] <;> rfl), Kd.Q_of_R (by (with_reducible repeat (first | apply Kd.R_alloc | apply Kd.R_drewN | apply Kd.R_drew)); exact HO106.out), by repeat (first | (with_reducible first | exact HB.out | apply below_alloc | apply pw_below_drewN | apply below_drew1) | exact HB.out)⟩
  · replace c4 := Bool.eq_false_iff.mpr c4
    subst c4
    have H1 : (some t104) = some r := by rw [if_neg (show ¬ (false = true) by decide)] at H; exact H
    clear H
    have H := H1
    clear H1
    obtain rfl := Option.some.inj H
    go_enter Tryd.func60, Tryd.ntmps60
    go_wp2_with (first | ((with_reducible refine gate_callee (f := 79) rfl ?_); refine goesL_ (some 8) rfl rfl Tryd.func79 (by kernel_rfl) rfl #[.slice none 0 0, .int .u64 (IntKind.u64.wrap (a0)), .int .i64 2] rfl (by (try simp only [List.map_toArray, List.map_cons, List.map_nil]); first | done | rfl | (simp only [List.length_drop, List.length_take]; rfl)) ?_; (refine (wire_Put.calls k (fun k_ => some k_ = (.slice none 0 0 : Value).ownBlock) (.slice none 0 0) ([] : List Int) (IntKind.u64.wrap (a0)) 2 t104 w _ ?side1 ?side2 A3.out).mono ?_); (case side1 => repeat (first | (with_reducible first | exact HB.out | apply below_alloc | apply pw_below_drewN | apply below_drew1) | exact HB.out)); (case side2 => exact Kd.R_nil _ _ _ _ _); rintro e w12 ⟨v105, rfl, ho0, hb, hkp⟩; refine ⟨_, rfl, ?_⟩; have n0_ := Aside0.mk (Kd.R_mono (ok' := fun k_ => True) ho0 (fun k_ hk_ => trivial)); have n1_ := Aside0.mk (hb); clear HB; have HO106 := n0_; have HB := n1_; clear n0_ n1_; (try clear hb); (try clear hkp); (try clear ho0)))
    go_ret
    exact ⟨_, by first | rfl | (simp [errW_none, errW_some] <;> rfl) | (simp [*, errW_none, errW_some] <;> rfl), Kd.Q_of_R (by (with_reducible repeat (first | apply Kd.R_alloc | apply Kd.R_drewN | apply Kd.R_drew)); exact HO106.out), by repeat (first | (with_reducible first | exact HB.out | apply below_alloc | apply pw_below_drewN | apply below_drew1) | exact HB.out)⟩
def bytes_Equal.f (l0 : List Int) (l1 : List Int) : Option (Bool) := some ((strOfNums l0).toList == (strOfNums l1).toList)
set_option maxHeartbeats 8000000 in
set_option maxRecDepth 100000 in
theorem bytes_Equal.calls (A0 : Option Addr) (c0 : Nat) (l0 : List Int) (A1 : Option Addr) (c1 : Nat) (l1 : List Int) (r : Bool) (w : World) (hr0 : Kd.C (Kd.int .u8) w A0 l0.length l0) (hc0 : l0.length ≤ c0) (hr1 : Kd.C (Kd.int .u8) w A1 l1.length l1) (hc1 : l1.length ≤ c1) (h : bytes_Equal.f l0 l1 = some r) :
    Calls Tryd.prog 67 #[.slice A0 l0.length c0, .slice A1 l1.length c1] w fun e w' => e = .returned (.bool r) ∧ Drawn0 w w' := by
  have HR0 := Aside0.mk hr0
  have HC0 := Aside0.mk hc0
  clear hr0 hc0
  have HR1 := Aside0.mk hr1
  have HC1 := Aside0.mk hc1
  clear hr1 hc1
  have H : (some ((strOfNums l0).toList == (strOfNums l1).toList)) = some r := h
  clear h
  obtain rfl := Option.some.inj H
  have hcv3 := Kd.C_string (P := Tryd.prog) (A := A0) (c := c0) Tryd.underlying35 Tryd.underlying5 Tryd.underlying9 HR0.out
  have hcv4 := Kd.C_string (P := Tryd.prog) (A := A1) (c := c1) Tryd.underlying35 Tryd.underlying5 Tryd.underlying9 HR1.out
  go_enter Tryd.func67, Tryd.ntmps67
  go_wp2
  go_ret
  exact ⟨by first | rfl | (simp; done) | (simp [*]; done), by repeat (first | exact Drawn0.refl _ | apply Drawn0.step)⟩
def bytes_HasPrefix.f (l0 : List Int) (l1 : List Int) : Option (Bool) := if (l0.length : Int) ≥ (l1.length : Int) then (if 0 ≤ (l1.length : Int) then (if (l1.length : Int) ≤ (l0.length : Int) then ((bytes_Equal.f (l0.take ((l1.length : Int) : Int).toNat) l1).bind fun t116 => (some t116)) else (none)) else (none)) else (some false)
set_option maxHeartbeats 8000000 in
set_option maxRecDepth 100000 in
theorem bytes_HasPrefix.calls (A0 : Option Addr) (c0 : Nat) (l0 : List Int) (A1 : Option Addr) (c1 : Nat) (l1 : List Int) (r : Bool) (w : World) (hr0 : Kd.C (Kd.int .u8) w A0 l0.length l0) (hc0 : l0.length ≤ c0) (hr1 : Kd.C (Kd.int .u8) w A1 l1.length l1) (hc1 : l1.length ≤ c1) (h : bytes_HasPrefix.f l0 l1 = some r) :
    Calls Tryd.prog 77 #[.slice A0 l0.length c0, .slice A1 l1.length c1] w fun e w' => e = .returned (.bool r) ∧ Drawn0 w w' := by
  have HR0 := Aside0.mk hr0
  have HC0 := Aside0.mk hc0
  clear hr0 hc0
  have HR1 := Aside0.mk hr1
  have HC1 := Aside0.mk hc1
  clear hr1 hc1
  have H : (if (l0.length : Int) ≥ (l1.length : Int) then (if 0 ≤ (l1.length : Int) then (if (l1.length : Int) ≤ (l0.length : Int) then ((bytes_Equal.f (l0.take ((l1.length : Int) : Int).toNat) l1).bind fun t116 => (some t116)) else (none)) else (none)) else (some false)) = some r := h
  obtain ⟨cm1, hcm1⟩ : ∃ m_ : List Int, m_ = (l0.take ((l1.length : Int) : Int).toNat) := ⟨_, rfl⟩
  (try rw [← hcm1] at H)
  have HCM1 := Aside0.mk hcm1
  clear hcm1
  clear h
  by_cases c3 : (l0.length : Int) ≥ (l1.length : Int)
  · rw [if_pos c3] at H
    have c3b0 : decide ((l1.length : Int) ≤ (l0.length : Int)) = true := decide_eq_true c3
    have c3b1 : decide (l1.length ≤ l0.length) = true := decide_eq_true (Int.ofNat_le.mp c3)
    clear c3
    by_cases c4 : 0 ≤ (l1.length : Int)
    · rw [if_pos c4] at H
      have c4b0 := eq_true c4
      have c4b1 : decide (0 ≤ (l1.length : Int)) = true := decide_eq_true c4
      clear c4
      by_cases c5 : (l1.length : Int) ≤ (l0.length : Int)
      · rw [if_pos c5] at H
        have c5b0 := eq_true c5
        have c5b1 : decide ((l1.length : Int) ≤ (l0.length : Int)) = true := decide_eq_true c5
        clear c5
        replace H := Option.bind_eq_some_iff.mp H
        obtain ⟨t116, A60, H⟩ := H
        replace H : (some t116) = some r := H
        have A6 := Aside0.mk A60
        clear A60
        obtain rfl := Option.some.inj H
        obtain ⟨i07, hi07, _, hsz7, _⟩ := info_parts info5
        obtain ⟨hcut7, hA7, hC7⟩ := print_take_of (P := Tryd.prog) (Value.int .u8) 0 35 5 .i64 Tryd.underlying35 hi07 hsz7 A0 c0 l0 (l1.length : Int) (of_decide_eq_true (by first | (with_reducible assumption) | assumption)) (of_decide_eq_true (by first | (with_reducible assumption) | assumption)) HC0.out
        rw [← HCM1.out] at hcut7 hA7 hC7
        have HCM1L := Aside0.mk (show cm1.length = ((l1.length : Int) : Int).toNat by rw [HCM1.out, List.length_take]; have h_ : ((l1.length : Int) : Int) ≤ (l0.length : Int) := of_decide_eq_true (by first | (with_reducible assumption) | assumption); omega)
        have HR115 := Aside0.mk (Kd.C_of_reads (h1 := fun _ => rfl) (hA7 _ (Kd.reads_of_C HR0.out)))
        have HC115 := Aside0.mk hC7
        clear hA7 hC7 hi07 hsz7
        go_enter Tryd.func77, Tryd.ntmps77
        go_wp2_with (first | (go_at_call 67; refine calls_of_args (args' := #[.slice A0 cm1.length c0, .slice A1 l1.length c1]) (by first | (rw [show cm1.length = (l1.length : Int).toNat from HCM1L.out] <;> rfl) |  rfl) ?_; (with_reducible refine (bytes_Equal.calls _ _ cm1 _ _ l1 t116 _ ?side1 ?side2 ?side3 ?side4 A6.out).mono ?_); (case side1 => repeat (first | exact HR115.out | (with_reducible refine Kd.C_alloc ?_ _) | (with_reducible refine Kd.C_drewN ?_ _) | (with_reducible refine Kd.C_drew ?_))); (case side2 => exact HC115.out); (case side3 => repeat (first | exact HR1.out | (with_reducible refine Kd.C_alloc ?_ _) | (with_reducible refine Kd.C_drewN ?_ _) | (with_reducible refine Kd.C_drew ?_))); (case side4 => exact HC1.out); rintro e w' ⟨rfl, ⟨nd, rfl⟩⟩))
        go_ret
        exact ⟨by first | rfl | (simp; done) | (simp [*]; done), by repeat (first | exact Drawn0.refl _ | apply Drawn0.step)⟩
      · rw [if_neg c5] at H
        exact absurd H (by simp)
    · rw [if_neg c4] at H
      exact absurd H (by simp)
  · rw [if_neg c3] at H
    have c3b0 : decide ((l1.length : Int) ≤ (l0.length : Int)) = false := decide_eq_false c3
    have c3b1 : decide (l1.length ≤ l0.length) = false := decide_eq_false (fun h => c3 (Int.ofNat_le.mpr h))
    clear c3
    obtain rfl := Option.some.inj H
    go_enter Tryd.func77, Tryd.ntmps77
    go_wp2
    go_ret
    exact ⟨by first | rfl | (simp; done) | (simp [*]; done), by repeat (first | exact Drawn0.refl _ | apply Drawn0.step)⟩
def proto_Right.f (a0 : Int) : Option (Bool) := if (Go.bits .and .u16 a0 257) = 1 then (some (a0 != 255)) else (some false)
set_option maxHeartbeats 8000000 in
set_option maxRecDepth 100000 in
theorem proto_Right.calls (a0 : Int) (r : Bool) (w : World) (h : proto_Right.f a0 = some r) :
    Calls Tryd.prog 69 #[.int .u16 a0] w fun e w' => e = .returned (.bool r) ∧ Drawn0 w w' := by
  have H : (if (Go.bits .and .u16 a0 257) = 1 then (some (a0 != 255)) else (some false)) = some r := h
  clear h
  by_cases c2 : (Go.bits .and .u16 a0 257) = 1
  · rw [if_pos c2] at H
    have c2b0 : ((Go.bits .and .u16 a0 257) == 1) = true := beq_iff_eq.mpr c2
    have c2b1 : ((Go.bits .and .u16 a0 257) != 1) = false := bne_eq_false_iff_eq.mpr c2
    clear c2
    obtain rfl := Option.some.inj H
    go_enter Tryd.func69, Tryd.ntmps69
    go_wp2
    go_ret
    exact ⟨by first | rfl | (simp; done) | (simp [*]; done), by repeat (first | exact Drawn0.refl _ | apply Drawn0.step)⟩
  · rw [if_neg c2] at H
    have c2b0 : ((Go.bits .and .u16 a0 257) == 1) = false := beq_eq_false_iff_ne.mpr c2
    have c2b1 : ((Go.bits .and .u16 a0 257) != 1) = true := bne_iff_ne.mpr c2
    obtain rfl := Option.some.inj H
    go_enter Tryd.func69, Tryd.ntmps69
    go_wp2
    go_ret
    exact ⟨by first | rfl | (simp; done) | (simp [*]; done), by repeat (first | exact Drawn0.refl _ | apply Drawn0.step)⟩
end Go.Proofs.YtggpejjfgphihaaDoor.H
end

section
namespace Go.Proofs.YtggpejjfgphihaaDoor.Given
open Go.RowKit Go.Proofs.YtggpejjfgphihaaDoorW.PrintWords Go.Proofs.YtggpejjfgphihaaDoorW.PrintLast Go.Proofs.YtggpejjfgphihaaDoorW.PrintMore
open Go.Proofs.YtggpejjfgphihaaDoor.H
set_option linter.unusedVariables false
set_option linter.unusedSimpArgs false
def cutOf (has : Bool) (l0 l1 : List Int) : List Int := if has = true then l0.drop l1.length else l0
theorem prefix_le {l0 l1 : List Int} (h : bytes_HasPrefix.f l0 l1 = some true) : l1.length ≤ l0.length := by
  unfold bytes_HasPrefix.f at h
  by_cases hg : (l1.length : Int) ≤ (l0.length : Int)
  · omega
  · exfalso
    revert h
    simp [hg]
set_option maxHeartbeats 2000000 in
set_option maxRecDepth 100000 in
theorem cutPrefix_calls (A0 : Option Addr) (c0 : Nat) (l0 : List Int) (A1 : Option Addr) (c1 : Nat) (l1 : List Int) (has : Bool) (w : World) (hr0 : Kd.C (Kd.int .u8) w A0 l0.length l0) (hc0 : l0.length ≤ c0) (hr1 : Kd.C (Kd.int .u8) w A1 l1.length l1) (hc1 : l1.length ≤ c1)
    (h : bytes_HasPrefix.f l0 l1 = some has) :
    Calls Tryd.prog 57 #[.slice A0 l0.length c0, .slice A1 l1.length c1] w fun e w' => ∃ (A' : Option Addr) (c' : Nat), e = .returned (.tuple #[.slice A' (cutOf has l0 l1).length c', .bool has]) ∧ Drawn0 w w' ∧ Kd.C (Kd.int .u8) w A' (cutOf has l0 l1).length (cutOf has l0 l1) ∧ (cutOf has l0 l1).length ≤ c' := by
  have HR0 := Aside0.mk hr0
  have HR1 := Aside0.mk hr1
  have HC0 := Aside0.mk hc0
  have HC1 := Aside0.mk hc1
  have HH := Aside0.mk h
  clear hr0 hr1 hc0 hc1
  cases has with
  | true =>
    have hle := prefix_le h
    clear h
    obtain ⟨i0, hi0, _, hsz, _⟩ := info_parts info5
    obtain ⟨A', hcut, hA, hC⟩ := print_drop_of (P := Tryd.prog) (Value.int .u8) 0 35 5 .i64 Tryd.underlying35 hi0 hsz A0 c0 l0 (l1.length : Int) (by omega) (by omega) HC0.out
    have hRA := Kd.C_of_reads (h1 := fun _ => rfl) (hA _ (Kd.reads_of_C HR0.out))
    rw [Int.toNat_natCast] at hcut hC hRA
    obtain ⟨m, hm⟩ : ∃ m : List Int, m = l0.drop l1.length := ⟨_, rfl⟩
    have hmo : cutOf true l0 l1 = m := by rw [hm]; rfl
    rw [← hm] at hcut hC hRA
    rw [hmo]
    have HRA := Aside0.mk hRA
    have HCA := Aside0.mk hC
    clear hA hC hRA hm hmo hi0 hsz hle
    go_enter Tryd.func57, Tryd.ntmps57
    go_wp2_with fail
    refine (bytes_HasPrefix.calls A0 c0 l0 A1 c1 l1 true _ HR0.out HC0.out HR1.out HC1.out HH.out).mono ?_
    rintro e w' ⟨rfl, ⟨nd, rfl⟩⟩
    go_wp2_with fail
    go_ret2
    exact ⟨_, _, rfl, ⟨_, rfl⟩, HRA.out, HCA.out⟩
  | false =>
    clear h
    go_enter Tryd.func57, Tryd.ntmps57
    go_wp2_with fail
    refine (bytes_HasPrefix.calls A0 c0 l0 A1 c1 l1 false _ HR0.out HC0.out HR1.out HC1.out HH.out).mono ?_
    rintro e w' ⟨rfl, ⟨nd, rfl⟩⟩
    go_wp2_with fail
    go_ret2
    exact ⟨_, _, rfl, ⟨_, rfl⟩, HR0.out, HC0.out⟩
end Go.Proofs.YtggpejjfgphihaaDoor.Given
end

section
namespace Go.Proofs.YtggpejjfgphihaaDoor.H
open Go.Proofs.YtggpejjfgphihaaDoor.Given Go.Proofs.YtggpejjfgphihaaDoor.D Go.RowKit Go.Proofs.YtggpejjfgphihaaDoorW.PrintWords Go.Proofs.YtggpejjfgphihaaDoorW.PrintLast Go.Proofs.YtggpejjfgphihaaDoorW.PrintMore
attribute [local go_sem] max2_int min2_int max_two min_two max_three min_three max_four min_four
set_option linter.unusedVariables false
set_option linter.unusedSimpArgs false
def wire_Get.l0 : Nat → Int → List Int → Int → Int → Option (Int)
  | 0, _, _, _, _ => none
  | k + 1, x5, x10, x11, x12 => if x12 < x11 then (if 0 ≤ x12 then (if x12 < (x10.length : Int) then (wire_Get.l0 k (Go.bits .or .u64 (IntKind.u64.wrap (x5 * 256)) (IntKind.u64.wrap (rd x10 x12))) x10 x11 (wrap64 (x12 + 1))) else (none)) else (none)) else (some x5)
def wire_Get.f (k : Nat) (l0 : List Int) (a1 : Int) : Option (Int) := if 0 ≤ a1 then (if a1 ≤ (l0.length : Int) then (wire_Get.l0 k 0 (l0.take (a1 : Int).toNat) ((l0.take (a1 : Int).toNat).length : Int) 0) else (none)) else (none)
set_option maxHeartbeats 8000000 in
set_option maxRecDepth 100000 in
theorem wire_Get.calls (k : Nat) (A0 : Option Addr) (c0 : Nat) (l0 : List Int) (a1 : Int) (r : Int) (w : World) (hr0 : Kd.C (Kd.int .u8) w A0 l0.length l0) (hc0 : l0.length ≤ c0) (h : wire_Get.f k l0 a1 = some r) :
    Calls Tryd.prog 78 #[.slice A0 l0.length c0, .int .i64 a1] w fun e w' => e = .returned (.int .u64 r) ∧ Drawn0 w w' := by
  have HR0 := Aside0.mk hr0
  have HC0 := Aside0.mk hc0
  clear hr0 hc0
  have H : (if 0 ≤ a1 then (if a1 ≤ (l0.length : Int) then (wire_Get.l0 k 0 (l0.take (a1 : Int).toNat) ((l0.take (a1 : Int).toNat).length : Int) 0) else (none)) else (none)) = some r := h
  obtain ⟨cm1, hcm1⟩ : ∃ m_ : List Int, m_ = (l0.take (a1 : Int).toNat) := ⟨_, rfl⟩
  (try rw [← hcm1] at H)
  have HCM1 := Aside0.mk hcm1
  clear hcm1
  clear h
  by_cases c3 : 0 ≤ a1
  · rw [if_pos c3] at H
    have c3b0 := eq_true c3
    have c3b1 : decide (0 ≤ a1) = true := decide_eq_true c3
    clear c3
    by_cases c4 : a1 ≤ (l0.length : Int)
    · rw [if_pos c4] at H
      have c4b0 := eq_true c4
      have c4b1 : decide (a1 ≤ (l0.length : Int)) = true := decide_eq_true c4
      clear c4
      have H' := Aside0.mk H
      clear H
      obtain ⟨i05, hi05, _, hsz5, _⟩ := info_parts info5
      obtain ⟨hcut5, hA5, hC5⟩ := print_take_of (P := Tryd.prog) (Value.int .u8) 0 35 5 .i64 Tryd.underlying35 hi05 hsz5 A0 c0 l0 a1 (of_decide_eq_true (by first | (with_reducible assumption) | assumption)) (of_decide_eq_true (by first | (with_reducible assumption) | assumption)) HC0.out
      rw [← HCM1.out] at hcut5 hA5 hC5
      have HCM1L := Aside0.mk (show cm1.length = (a1 : Int).toNat by rw [HCM1.out, List.length_take]; have h_ : (a1 : Int) ≤ (l0.length : Int) := of_decide_eq_true (by first | (with_reducible assumption) | assumption); omega)
      have HR121 := Aside0.mk (Kd.C_of_reads (h1 := fun _ => rfl) (hA5 _ (Kd.reads_of_C HR0.out)))
      have HC121 := Aside0.mk hC5
      clear hA5 hC5 hi05 hsz5
      go_enter Tryd.func78, Tryd.ntmps78
      go_wp2
      go_loopg [5, 12] k (fun kq v5 v12 w' => ∃ (x5_1 : Int) (x12_1 : Int), v5 = .int .u64 x5_1 ∧ v12 = .int .i64 x12_1 ∧ Aside0 (wire_Get.l0 kq x5_1 cm1 (cm1.length : Int) x12_1 = some r) ∧ Aside0 (kq ≤ k) ∧ Drawn0 w w')
      case atStart => exact ⟨(0), (0), (by first | rfl | (simp; done) | (simp [*]; done)), (by first | rfl | (simp; done) | (simp [*]; done)), H', ⟨Nat.le_refl _⟩, by repeat (first | exact Drawn0.refl _ | apply Drawn0.step)⟩
      case round =>
        clear H'
        try clear p2
        try clear c3
        try clear c3b0
        try clear c3b1
        try clear c4
        try clear c4b0
        try clear c4b1
        obtain ⟨x5_1, x12_1, rfl, rfl, HA, HK1, ⟨m1, rfl⟩⟩ := hrel
        cases gk with
        | zero => exact absurd HA.out (by simp [wire_Get.l0])
        | succ k1 =>
          have H := HA.out
          clear HA
          simp only [wire_Get.l0] at H
          by_cases c6 : x12_1 < (cm1.length : Int)
          · rw [if_pos c6] at H
            have c6b0 : decide (x12_1 < (cm1.length : Int)) = true := decide_eq_true c6
            clear c6
            by_cases c7 : 0 ≤ x12_1
            · rw [if_pos c7] at H
              have c7b0 : decide (0 ≤ x12_1) = true := decide_eq_true c7
              clear c7
              by_cases c8 : x12_1 < (cm1.length : Int)
              · rw [if_pos c8] at H
                have c8b0 : decide (x12_1 < (cm1.length : Int)) = true := decide_eq_true c8
                clear c8
                have H' := Aside0.mk H
                clear H
                have p122 : 0 ≤ (x12_1 : Int) := of_decide_eq_true (by first | (with_reducible assumption) | assumption)
                have q122 : x12_1 < (cm1.length : Int) := of_decide_eq_true (by first | (with_reducible assumption) | assumption)
                obtain ⟨ad122, e122, hx122_0⟩ := Kd.at_int HR121.out x12_1 p122 q122
                cases e122
                replace p122 := eq_true p122
                replace q122 := eq_true q122
                go_wp2
                go_roundg k1
                case measure => have := HK1.out; omega
                case rel => exact ⟨(Go.bits .or .u64 (IntKind.u64.wrap (x5_1 * 256)) (IntKind.u64.wrap (rd cm1 x12_1))), (wrap64 (x12_1 + 1)), (by first | rfl | (simp; done) | (simp [*]; done)), (by first | rfl | (simp; done) | (simp [*]; done)), H', ⟨by have := HK1.out; omega⟩, by repeat (first | exact Drawn0.refl _ | apply Drawn0.step)⟩
              · rw [if_neg c8] at H
                exact absurd H (by simp)
            · rw [if_neg c7] at H
              exact absurd H (by simp)
          · rw [if_neg c6] at H
            have c6b0 : decide (x12_1 < (cm1.length : Int)) = false := decide_eq_false c6
            clear c6
            obtain rfl := Option.some.inj H
            go_wp2
            go_ret
            exact ⟨by first | rfl | (simp; done) | (simp [*]; done), by repeat (first | exact Drawn0.refl _ | apply Drawn0.step)⟩
    · rw [if_neg c4] at H
      exact absurd H (by simp)
  · rw [if_neg c3] at H
    exact absurd H (by simp)
end Go.Proofs.YtggpejjfgphihaaDoor.H
end

section
namespace Go.Proofs.YtggpejjfgphihaaDoor.H
open Go.Proofs.YtggpejjfgphihaaDoor.Given Go.Proofs.YtggpejjfgphihaaDoor.D Go.RowKit Go.Proofs.YtggpejjfgphihaaDoorW.PrintWords Go.Proofs.YtggpejjfgphihaaDoorW.PrintLast Go.Proofs.YtggpejjfgphihaaDoorW.PrintMore
attribute [local go_sem] max2_int min2_int max_two min_two max_three min_three max_four min_four
set_option linter.unusedVariables false
set_option linter.unusedSimpArgs false
def proto_Get.f (k : Nat) (l0 : List Int) (a1 : Bool) : Option (Int × Int × Int) := if (l0.length : Int) = 0 then (some (0, 0, 2)) else (if 0 < (l0.length : Int) then (if (Go.bits .and .u8 (rd l0 0) 1) = 0 then (if (l0.length : Int) = 1 then (some (0, 0, 2)) else ((wire_Get.f k l0 2).bind fun t125 => ((proto_Right.f (IntKind.u16.wrap (t125))).bind fun t126 => (if t126 = true then (if 2 = 1 then (if a1 = true then (some (IntKind.u16.wrap (t125), 2, 0)) else (some (0, 0, 7))) else (some (IntKind.u16.wrap (t125), 2, 0))) else (some (0, 0, 7)))))) else ((proto_Right.f (IntKind.u16.wrap (rd l0 0))).bind fun t127 => (if t127 = true then (if 1 = 1 then (if a1 = true then (some (IntKind.u16.wrap (rd l0 0), 1, 0)) else (some (0, 0, 7))) else (some (IntKind.u16.wrap (rd l0 0), 1, 0))) else (some (0, 0, 7))))) else (none))
set_option maxHeartbeats 8000000 in
set_option maxRecDepth 100000 in
theorem proto_Get.calls (k : Nat) (A0 : Option Addr) (c0 : Nat) (l0 : List Int) (a1 : Bool) (r1 : Int) (r2 : Int) (r3 : Int) (w : World) (hr0 : Kd.C (Kd.int .u8) w A0 l0.length l0) (hc0 : l0.length ≤ c0) (h : proto_Get.f k l0 a1 = some (r1, r2, r3)) :
    Calls Tryd.prog 58 #[.slice A0 l0.length c0, .bool a1] w fun e w' => e = .returned (.tuple #[.int .u16 r1, .int .i64 r2, .int .i64 r3]) ∧ Drawn0 w w' := by
  have HR0 := Aside0.mk hr0
  have HC0 := Aside0.mk hc0
  clear hr0 hc0
  have H : (if (l0.length : Int) = 0 then (some (0, 0, 2)) else (if 0 < (l0.length : Int) then (if (Go.bits .and .u8 (rd l0 0) 1) = 0 then (if (l0.length : Int) = 1 then (some (0, 0, 2)) else ((wire_Get.f k l0 2).bind fun t125 => ((proto_Right.f (IntKind.u16.wrap (t125))).bind fun t126 => (if t126 = true then (if 2 = 1 then (if a1 = true then (some (IntKind.u16.wrap (t125), 2, 0)) else (some (0, 0, 7))) else (some (IntKind.u16.wrap (t125), 2, 0))) else (some (0, 0, 7)))))) else ((proto_Right.f (IntKind.u16.wrap (rd l0 0))).bind fun t127 => (if t127 = true then (if 1 = 1 then (if a1 = true then (some (IntKind.u16.wrap (rd l0 0), 1, 0)) else (some (0, 0, 7))) else (some (IntKind.u16.wrap (rd l0 0), 1, 0))) else (some (0, 0, 7))))) else (none))) = some (r1, r2, r3) := h
  clear h
  by_cases c3 : (l0.length : Int) = 0
  · rw [if_pos c3] at H
    have c3b0 : ((l0.length : Int) == 0) = true := beq_iff_eq.mpr c3
    have c3b1 : ((l0.length : Int) != 0) = false := bne_eq_false_iff_eq.mpr c3
    clear c3
    simp only [Option.some.injEq, Prod.mk.injEq] at H
    obtain ⟨rfl, rfl, rfl⟩ := H
    go_enter Tryd.func58, Tryd.ntmps58
    go_wp2
    go_ret3
    exact ⟨by first | rfl | (simp; done) | (simp [*]; done), by repeat (first | exact Drawn0.refl _ | apply Drawn0.step)⟩
  · rw [if_neg c3] at H
    have c3b0 : ((l0.length : Int) == 0) = false := beq_eq_false_iff_ne.mpr c3
    have c3b1 : ((l0.length : Int) != 0) = true := bne_iff_ne.mpr c3
    have c3b2 : ¬ (l0 = []) := fun h_ => c3 (by rw [h_]; rfl)
    by_cases c4 : 0 < (l0.length : Int)
    · rw [if_pos c4] at H
      have c4b0 : decide (0 < (l0.length : Int)) = true := decide_eq_true c4
      have c4b1 : decide (0 < l0.length) = true := decide_eq_true (by omega)
      clear c4
      by_cases c5 : (Go.bits .and .u8 (rd l0 0) 1) = 0
      · rw [if_pos c5] at H
        have c5b0 : ((Go.bits .and .u8 (rd l0 0) 1) == 0) = true := beq_iff_eq.mpr c5
        have c5b1 : ((Go.bits .and .u8 (rd l0 0) 1) != 0) = false := bne_eq_false_iff_eq.mpr c5
        clear c5
        by_cases c6 : (l0.length : Int) = 1
        · rw [if_pos c6] at H
          have c6b0 : ((l0.length : Int) == 1) = true := beq_iff_eq.mpr c6
          have c6b1 : ((l0.length : Int) != 1) = false := bne_eq_false_iff_eq.mpr c6
          clear c6
          simp only [Option.some.injEq, Prod.mk.injEq] at H
          obtain ⟨rfl, rfl, rfl⟩ := H
          have p123 : 0 ≤ (0 : Int) := (by omega)
          have q123 : 0 < (l0.length : Int) := of_decide_eq_true (by first | (with_reducible assumption) | assumption)
          obtain ⟨ad123, e123, hx123_0⟩ := Kd.at_int HR0.out 0 p123 q123
          cases e123
          have qi123 : (0 < l0.length) = True := eq_true (by omega)
          (try rw [show ((0 : Int)).toNat = 0 from rfl] at hx123_0)
          (try rw [Addr.add_zero'] at hx123_0)
          replace p123 := eq_true p123
          replace q123 := eq_true q123
          have p124 : 0 ≤ (0 : Int) := (by omega)
          have q124 : 0 < (l0.length : Int) := of_decide_eq_true (by first | (with_reducible assumption) | assumption)
          obtain ⟨ad124, e124, hx124_0⟩ := Kd.at_int HR0.out 0 p124 q124
          obtain rfl : ad123 = ad124 := (by injection e124)
          have qi124 : (0 < l0.length) = True := eq_true (by omega)
          (try rw [show ((0 : Int)).toNat = 0 from rfl] at hx124_0)
          (try rw [Addr.add_zero'] at hx124_0)
          replace p124 := eq_true p124
          replace q124 := eq_true q124
          go_enter Tryd.func58, Tryd.ntmps58
          go_wp2
          go_ret3
          exact ⟨by first | rfl | (simp; done) | (simp [*]; done), by repeat (first | exact Drawn0.refl _ | apply Drawn0.step)⟩
        · rw [if_neg c6] at H
          have c6b0 : ((l0.length : Int) == 1) = false := beq_eq_false_iff_ne.mpr c6
          have c6b1 : ((l0.length : Int) != 1) = true := bne_iff_ne.mpr c6
          replace H := Option.bind_eq_some_iff.mp H
          obtain ⟨t125, A70, H⟩ := H
          replace H : ((proto_Right.f (IntKind.u16.wrap (t125))).bind fun t126 => (if t126 = true then (if 2 = 1 then (if a1 = true then (some (IntKind.u16.wrap (t125), 2, 0)) else (some (0, 0, 7))) else (some (IntKind.u16.wrap (t125), 2, 0))) else (some (0, 0, 7)))) = some (r1, r2, r3) := H
          have A7 := Aside0.mk A70
          clear A70
          replace H := Option.bind_eq_some_iff.mp H
          obtain ⟨t126, A80, H⟩ := H
          replace H : (if t126 = true then (if 2 = 1 then (if a1 = true then (some (IntKind.u16.wrap (t125), 2, 0)) else (some (0, 0, 7))) else (some (IntKind.u16.wrap (t125), 2, 0))) else (some (0, 0, 7))) = some (r1, r2, r3) := H
          have A8 := Aside0.mk A80
          clear A80
          by_cases c9 : t126 = true
          · subst c9
            have H1 : (if 2 = 1 then (if a1 = true then (some (IntKind.u16.wrap (t125), 2, 0)) else (some (0, 0, 7))) else (some (IntKind.u16.wrap (t125), 2, 0))) = some (r1, r2, r3) := by rw [if_pos rfl] at H; exact H
            clear H
            have H := H1
            clear H1
            by_cases c10 : 2 = 1
            · exact absurd c10 (by decide)
            · rw [if_neg c10] at H
              have c10b0 : (2 == 1) = false := beq_eq_false_iff_ne.mpr c10
              have c10b1 : (2 != 1) = true := bne_iff_ne.mpr c10
              simp only [Option.some.injEq, Prod.mk.injEq] at H
              obtain ⟨rfl, rfl, rfl⟩ := H
              have p123 : 0 ≤ (0 : Int) := (by omega)
              have q123 : 0 < (l0.length : Int) := of_decide_eq_true (by first | (with_reducible assumption) | assumption)
              obtain ⟨ad123, e123, hx123_0⟩ := Kd.at_int HR0.out 0 p123 q123
              cases e123
              have qi123 : (0 < l0.length) = True := eq_true (by omega)
              (try rw [show ((0 : Int)).toNat = 0 from rfl] at hx123_0)
              (try rw [Addr.add_zero'] at hx123_0)
              replace p123 := eq_true p123
              replace q123 := eq_true q123
              have p124 : 0 ≤ (0 : Int) := (by omega)
              have q124 : 0 < (l0.length : Int) := of_decide_eq_true (by first | (with_reducible assumption) | assumption)
              obtain ⟨ad124, e124, hx124_0⟩ := Kd.at_int HR0.out 0 p124 q124
              obtain rfl : ad123 = ad124 := (by injection e124)
              have qi124 : (0 < l0.length) = True := eq_true (by omega)
              (try rw [show ((0 : Int)).toNat = 0 from rfl] at hx124_0)
              (try rw [Addr.add_zero'] at hx124_0)
              replace p124 := eq_true p124
              replace q124 := eq_true q124
              go_enter Tryd.func58, Tryd.ntmps58
              go_wp2_with (first | ((with_reducible refine gate_callee (f := 78) rfl ?_); refine goesL_ (some 25) rfl rfl Tryd.func78 (by kernel_rfl) rfl #[.slice (some ad123) l0.length c0, .int .i64 2] rfl (by (try simp only [List.map_toArray, List.map_cons, List.map_nil]); first | done | rfl | (simp only [List.length_drop, List.length_take]; rfl)) ?_; (with_reducible refine (wire_Get.calls k _ _ l0 2 t125 _ ?side1 ?side2 A7.out).mono ?_); (case side1 => repeat (first | exact HR0.out | (with_reducible refine Kd.C_alloc ?_ _) | (with_reducible refine Kd.C_drewN ?_ _) | (with_reducible refine Kd.C_drew ?_))); (case side2 => exact HC0.out); rintro e w' ⟨rfl, ⟨nd, rfl⟩⟩; refine ⟨_, rfl, ?_⟩) | ((with_reducible refine gate_callee (f := 69) rfl ?_); refine goesL_ (some 28) rfl rfl Tryd.func69 (by kernel_rfl) rfl #[.int .u16 (IntKind.u16.wrap (t125))] rfl (by (try simp only [List.map_toArray, List.map_cons, List.map_nil]); first | done | rfl | (simp only [List.length_drop, List.length_take]; rfl)) ?_; (with_reducible refine (proto_Right.calls (IntKind.u16.wrap (t125)) true _ A8.out).mono ?_); rintro e w' ⟨rfl, ⟨nd, rfl⟩⟩; refine ⟨_, rfl, ?_⟩))
              go_ret3
              exact ⟨by first | rfl | (simp; done) | (simp [*]; done), by repeat (first | exact Drawn0.refl _ | apply Drawn0.step)⟩
          · replace c9 := Bool.eq_false_iff.mpr c9
            subst c9
            have H1 : (some (0, 0, 7)) = some (r1, r2, r3) := by rw [if_neg (show ¬ (false = true) by decide)] at H; exact H
            clear H
            have H := H1
            clear H1
            simp only [Option.some.injEq, Prod.mk.injEq] at H
            obtain ⟨rfl, rfl, rfl⟩ := H
            have p123 : 0 ≤ (0 : Int) := (by omega)
            have q123 : 0 < (l0.length : Int) := of_decide_eq_true (by first | (with_reducible assumption) | assumption)
            obtain ⟨ad123, e123, hx123_0⟩ := Kd.at_int HR0.out 0 p123 q123
            cases e123
            have qi123 : (0 < l0.length) = True := eq_true (by omega)
            (try rw [show ((0 : Int)).toNat = 0 from rfl] at hx123_0)
            (try rw [Addr.add_zero'] at hx123_0)
            replace p123 := eq_true p123
            replace q123 := eq_true q123
            have p124 : 0 ≤ (0 : Int) := (by omega)
            have q124 : 0 < (l0.length : Int) := of_decide_eq_true (by first | (with_reducible assumption) | assumption)
            obtain ⟨ad124, e124, hx124_0⟩ := Kd.at_int HR0.out 0 p124 q124
            obtain rfl : ad123 = ad124 := (by injection e124)
            have qi124 : (0 < l0.length) = True := eq_true (by omega)
            (try rw [show ((0 : Int)).toNat = 0 from rfl] at hx124_0)
            (try rw [Addr.add_zero'] at hx124_0)
            replace p124 := eq_true p124
            replace q124 := eq_true q124
            go_enter Tryd.func58, Tryd.ntmps58
            go_wp2_with (first | ((with_reducible refine gate_callee (f := 78) rfl ?_); refine goesL_ (some 25) rfl rfl Tryd.func78 (by kernel_rfl) rfl #[.slice (some ad123) l0.length c0, .int .i64 2] rfl (by (try simp only [List.map_toArray, List.map_cons, List.map_nil]); first | done | rfl | (simp only [List.length_drop, List.length_take]; rfl)) ?_; (with_reducible refine (wire_Get.calls k _ _ l0 2 t125 _ ?side1 ?side2 A7.out).mono ?_); (case side1 => repeat (first | exact HR0.out | (with_reducible refine Kd.C_alloc ?_ _) | (with_reducible refine Kd.C_drewN ?_ _) | (with_reducible refine Kd.C_drew ?_))); (case side2 => exact HC0.out); rintro e w' ⟨rfl, ⟨nd, rfl⟩⟩; refine ⟨_, rfl, ?_⟩) | ((with_reducible refine gate_callee (f := 69) rfl ?_); refine goesL_ (some 28) rfl rfl Tryd.func69 (by kernel_rfl) rfl #[.int .u16 (IntKind.u16.wrap (t125))] rfl (by (try simp only [List.map_toArray, List.map_cons, List.map_nil]); first | done | rfl | (simp only [List.length_drop, List.length_take]; rfl)) ?_; (with_reducible refine (proto_Right.calls (IntKind.u16.wrap (t125)) false _ A8.out).mono ?_); rintro e w' ⟨rfl, ⟨nd, rfl⟩⟩; refine ⟨_, rfl, ?_⟩))
            go_ret3
            exact ⟨by first | rfl | (simp; done) | (simp [*]; done), by repeat (first | exact Drawn0.refl _ | apply Drawn0.step)⟩
      · rw [if_neg c5] at H
        have c5b0 : ((Go.bits .and .u8 (rd l0 0) 1) == 0) = false := beq_eq_false_iff_ne.mpr c5
        have c5b1 : ((Go.bits .and .u8 (rd l0 0) 1) != 0) = true := bne_iff_ne.mpr c5
        replace H := Option.bind_eq_some_iff.mp H
        obtain ⟨t127, A120, H⟩ := H
        replace H : (if t127 = true then (if 1 = 1 then (if a1 = true then (some (IntKind.u16.wrap (rd l0 0), 1, 0)) else (some (0, 0, 7))) else (some (IntKind.u16.wrap (rd l0 0), 1, 0))) else (some (0, 0, 7))) = some (r1, r2, r3) := H
        have A12 := Aside0.mk A120
        clear A120
        by_cases c13 : t127 = true
        · subst c13
          have H1 : (if 1 = 1 then (if a1 = true then (some (IntKind.u16.wrap (rd l0 0), 1, 0)) else (some (0, 0, 7))) else (some (IntKind.u16.wrap (rd l0 0), 1, 0))) = some (r1, r2, r3) := by rw [if_pos rfl] at H; exact H
          clear H
          have H := H1
          clear H1
          by_cases c14 : 1 = 1
          · rw [if_pos c14] at H
            have c14b0 : (1 == 1) = true := beq_iff_eq.mpr c14
            have c14b1 : (1 != 1) = false := bne_eq_false_iff_eq.mpr c14
            clear c14
            by_cases c15 : a1 = true
            · subst c15
              have H1 : (some (IntKind.u16.wrap (rd l0 0), 1, 0)) = some (r1, r2, r3) := by rw [if_pos rfl] at H; exact H
              clear H
              have H := H1
              clear H1
              simp only [Option.some.injEq, Prod.mk.injEq] at H
              obtain ⟨rfl, rfl, rfl⟩ := H
              have p123 : 0 ≤ (0 : Int) := (by omega)
              have q123 : 0 < (l0.length : Int) := of_decide_eq_true (by first | (with_reducible assumption) | assumption)
              obtain ⟨ad123, e123, hx123_0⟩ := Kd.at_int HR0.out 0 p123 q123
              cases e123
              have qi123 : (0 < l0.length) = True := eq_true (by omega)
              (try rw [show ((0 : Int)).toNat = 0 from rfl] at hx123_0)
              (try rw [Addr.add_zero'] at hx123_0)
              replace p123 := eq_true p123
              replace q123 := eq_true q123
              have p124 : 0 ≤ (0 : Int) := (by omega)
              have q124 : 0 < (l0.length : Int) := of_decide_eq_true (by first | (with_reducible assumption) | assumption)
              obtain ⟨ad124, e124, hx124_0⟩ := Kd.at_int HR0.out 0 p124 q124
              obtain rfl : ad123 = ad124 := (by injection e124)
              have qi124 : (0 < l0.length) = True := eq_true (by omega)
              (try rw [show ((0 : Int)).toNat = 0 from rfl] at hx124_0)
              (try rw [Addr.add_zero'] at hx124_0)
              replace p124 := eq_true p124
              replace q124 := eq_true q124
              go_enter Tryd.func58, Tryd.ntmps58
              go_wp2_with (first | ((with_reducible refine gate_callee (f := 69) rfl ?_); refine goesL_ (some 28) rfl rfl Tryd.func69 (by kernel_rfl) rfl #[.int .u16 (IntKind.u16.wrap (rd l0 0))] rfl (by (try simp only [List.map_toArray, List.map_cons, List.map_nil]); first | done | rfl | (simp only [List.length_drop, List.length_take]; rfl)) ?_; (with_reducible refine (proto_Right.calls (IntKind.u16.wrap (rd l0 0)) true _ A12.out).mono ?_); rintro e w' ⟨rfl, ⟨nd, rfl⟩⟩; refine ⟨_, rfl, ?_⟩))
              go_ret3
              exact ⟨by first | rfl | (simp; done) | (simp [*]; done), by repeat (first | exact Drawn0.refl _ | apply Drawn0.step)⟩
            · replace c15 := Bool.eq_false_iff.mpr c15
              subst c15
              have H1 : (some (0, 0, 7)) = some (r1, r2, r3) := by rw [if_neg (show ¬ (false = true) by decide)] at H; exact H
              clear H
              have H := H1
              clear H1
              simp only [Option.some.injEq, Prod.mk.injEq] at H
              obtain ⟨rfl, rfl, rfl⟩ := H
              have p123 : 0 ≤ (0 : Int) := (by omega)
              have q123 : 0 < (l0.length : Int) := of_decide_eq_true (by first | (with_reducible assumption) | assumption)
              obtain ⟨ad123, e123, hx123_0⟩ := Kd.at_int HR0.out 0 p123 q123
              cases e123
              have qi123 : (0 < l0.length) = True := eq_true (by omega)
              (try rw [show ((0 : Int)).toNat = 0 from rfl] at hx123_0)
              (try rw [Addr.add_zero'] at hx123_0)
              replace p123 := eq_true p123
              replace q123 := eq_true q123
              have p124 : 0 ≤ (0 : Int) := (by omega)
              have q124 : 0 < (l0.length : Int) := of_decide_eq_true (by first | (with_reducible assumption) | assumption)
              obtain ⟨ad124, e124, hx124_0⟩ := Kd.at_int HR0.out 0 p124 q124
              obtain rfl : ad123 = ad124 := (by injection e124)
              have qi124 : (0 < l0.length) = True := eq_true (by omega)
              (try rw [show ((0 : Int)).toNat = 0 from rfl] at hx124_0)
              (try rw [Addr.add_zero'] at hx124_0)
              replace p124 := eq_true p124
              replace q124 := eq_true q124
              go_enter Tryd.func58, Tryd.ntmps58
              go_wp2_with (first | ((with_reducible refine gate_callee (f := 69) rfl ?_); refine goesL_ (some 28) rfl rfl Tryd.func69 (by kernel_rfl) rfl #[.int .u16 (IntKind.u16.wrap (rd l0 0))] rfl (by (try simp only [List.map_toArray, List.map_cons, List.map_nil]); first | done | rfl | (simp only [List.length_drop, List.length_take]; rfl)) ?_; (with_reducible refine (proto_Right.calls (IntKind.u16.wrap (rd l0 0)) true _ A12.out).mono ?_); rintro e w' ⟨rfl, ⟨nd, rfl⟩⟩; refine ⟨_, rfl, ?_⟩))
              go_ret3
              exact ⟨by first | rfl | (simp; done) | (simp [*]; done), by repeat (first | exact Drawn0.refl _ | apply Drawn0.step)⟩
          · exact absurd rfl c14
        · replace c13 := Bool.eq_false_iff.mpr c13
          subst c13
          have H1 : (some (0, 0, 7)) = some (r1, r2, r3) := by rw [if_neg (show ¬ (false = true) by decide)] at H; exact H
          clear H
          have H := H1
          clear H1
          simp only [Option.some.injEq, Prod.mk.injEq] at H
          obtain ⟨rfl, rfl, rfl⟩ := H
          have p123 : 0 ≤ (0 : Int) := (by omega)
          have q123 : 0 < (l0.length : Int) := of_decide_eq_true (by first | (with_reducible assumption) | assumption)
          obtain ⟨ad123, e123, hx123_0⟩ := Kd.at_int HR0.out 0 p123 q123
          cases e123
          have qi123 : (0 < l0.length) = True := eq_true (by omega)
          (try rw [show ((0 : Int)).toNat = 0 from rfl] at hx123_0)
          (try rw [Addr.add_zero'] at hx123_0)
          replace p123 := eq_true p123
          replace q123 := eq_true q123
          have p124 : 0 ≤ (0 : Int) := (by omega)
          have q124 : 0 < (l0.length : Int) := of_decide_eq_true (by first | (with_reducible assumption) | assumption)
          obtain ⟨ad124, e124, hx124_0⟩ := Kd.at_int HR0.out 0 p124 q124
          obtain rfl : ad123 = ad124 := (by injection e124)
          have qi124 : (0 < l0.length) = True := eq_true (by omega)
          (try rw [show ((0 : Int)).toNat = 0 from rfl] at hx124_0)
          (try rw [Addr.add_zero'] at hx124_0)
          replace p124 := eq_true p124
          replace q124 := eq_true q124
          go_enter Tryd.func58, Tryd.ntmps58
          go_wp2_with (first | ((with_reducible refine gate_callee (f := 69) rfl ?_); refine goesL_ (some 28) rfl rfl Tryd.func69 (by kernel_rfl) rfl #[.int .u16 (IntKind.u16.wrap (rd l0 0))] rfl (by (try simp only [List.map_toArray, List.map_cons, List.map_nil]); first | done | rfl | (simp only [List.length_drop, List.length_take]; rfl)) ?_; (with_reducible refine (proto_Right.calls (IntKind.u16.wrap (rd l0 0)) false _ A12.out).mono ?_); rintro e w' ⟨rfl, ⟨nd, rfl⟩⟩; refine ⟨_, rfl, ?_⟩))
          go_ret3
          exact ⟨by first | rfl | (simp; done) | (simp [*]; done), by repeat (first | exact Drawn0.refl _ | apply Drawn0.step)⟩
    · rw [if_neg c4] at H
      exact absurd H (by simp)
end Go.Proofs.YtggpejjfgphihaaDoor.H
end

section
namespace Go.Proofs.YtggpejjfgphihaaDoor.Given
open Go.RowKit Go.Proofs.YtggpejjfgphihaaDoorW.PrintWords Go.Proofs.YtggpejjfgphihaaDoorW.PrintLast Go.Proofs.YtggpejjfgphihaaDoorW.PrintMore
open Go.Proofs.YtggpejjfgphihaaDoor.H
set_option linter.unusedVariables false
set_option linter.unusedSimpArgs false
def head_Get.f (k : Nat) (a0_0 a0_1 a0_2 a0_3 : Bool) (a0_4 a0_5 a0_6 : Int) (l1 : List Int) : Option (Int × Int × Int) :=
  (bytes_HasPrefix.f l1 [255, 3]).bind fun has => if has = false ∧ a0_2 = false then some (0, 0, 7) else
    (proto_Get.f k (cutOf has l1 [255, 3]) a0_3).bind fun t => if t.2.2 = 0 then some (t.1, wrap64 (wrap64 ((l1.length : Int) - ((cutOf has l1 [255, 3]).length : Int)) + t.2.1), 0) else some (0, 0, 7)
theorem full_reads (w : World) : Kd.C (Kd.int .u8) (w.alloc (.cells #[.int .u8 255, .int .u8 3] 82)) (some ⟨w.heap.size, 0, none⟩) ([255, 3] : List Int).length [255, 3] :=
  Kd.C_of_reads (d := (0 : Int)) (h1 := fun _ => rfl) ⟨rfl, by decide, fun _ => ⟨_, rfl, fun j hj => by
      rw [add_plain, cell_of_row _ _ j _ 82 (0, 0) (heap_alloc_new w _)]
      match j, hj with
      | 0, _ => rfl
      | 1, _ => rfl
      | j + 2, hj => exact absurd hj (by simp)⟩⟩
theorem hi82 : (Tryd.prog.info? 82).map (·.size) = some 2 := by kernel_rfl
theorem full_len : Tryd.prog.arrayLen 82 = 2 := by kernel_rfl
theorem full_elem : Tryd.prog.elem 82 = 5 := by kernel_rfl
theorem full_cut (a : Addr) (W : World) : (Instr.sliceAt 82 (.pointer (some a)) none none none).run Tryd.prog W = .ok (.slice (some a) 2 2) W := by
  obtain ⟨i0, hi0, _, hsz, _⟩ := info_parts info5
  have hu : Tryd.prog.underlying 82 = some (.array (Tryd.prog.arrayLen 82) (Tryd.prog.elem 82)) := by kernel_rfl
  rw [run_sliceAt_array_all W 82 a hu, full_elem, full_len]
  simp [sizeOf, typeInfo, hi0, hsz, slicedAt, sliced, Result.andThen, Addr.add]
set_option maxHeartbeats 4000000 in
set_option maxRecDepth 100000 in
theorem head_Get.calls (k : Nat) (a0_0 a0_1 a0_2 a0_3 : Bool) (a0_4 a0_5 a0_6 : Int) (A1 : Option Addr) (c1 : Nat) (l1 : List Int) (r1 r2 r3 : Int) (w : World) (hr1 : Kd.C (Kd.int .u8) w A1 l1.length l1) (hc1 : l1.length ≤ c1) (hgH : GH w)
    (h : head_Get.f k a0_0 a0_1 a0_2 a0_3 a0_4 a0_5 a0_6 l1 = some (r1, r2, r3)) :
    Calls Tryd.prog 29 #[.agg #[.bool a0_0, .bool a0_1, .bool a0_2, .bool a0_3, .int .u32 a0_4, .int .u32 a0_5, .int .i64 a0_6], .slice A1 l1.length c1] w fun e w' => e = .returned (.tuple #[.int .u16 r1, .int .i64 r2, .int .i64 r3]) ∧ Below w.heap.size w w' := by
  obtain ⟨g0, g1⟩ := hgH
  have lt0 : 0 < w.heap.size := World.block_lt_of_cell? w _ g0
  have HR := Aside0.mk hr1
  have HC := Aside0.mk hc1
  have H := Aside0.mk h
  clear hr1 hc1 h
  go_enter Tryd.func29, Tryd.ntmps29
  go_upto_region 1 with (fail)
  obtain ⟨w1, hw1⟩ : ∃ W, W = w.alloc (.cells #[.bool a0_0, .bool a0_1, .bool a0_2, .bool a0_3, .int .u32 a0_4, .int .u32 a0_5, .int .i64 a0_6] 26) := ⟨_, rfl⟩
  have hb1 : Below w.heap.size w w1 := by rw [hw1]; exact below_alloc (Below.refl _ _) _
  have hs1 : w1.heap.size = w.heap.size + 1 := by rw [hw1]; simp
  have q0 : w1.cell? ⟨0, 0, none⟩ = some (.int .u8 255) := pw_cell_below hb1 g0
  have q1 : w1.cell? ⟨0, 1, none⟩ = some (.int .u8 3) := pw_cell_below hb1 g1
  have ca2 : w1.cell? ⟨w.heap.size, 2, none⟩ = some (.bool a0_2) := by rw [hw1]; exact cell_of_row _ _ 2 _ 26 (0, 0) (heap_alloc_new w _)
  have ca3 : w1.cell? ⟨w.heap.size, 3, none⟩ = some (.bool a0_3) := by rw [hw1]; exact cell_of_row _ _ 3 _ 26 (0, 0) (heap_alloc_new w _)
  rw [← hw1]
  have HR1 := Aside0.mk (Kd.C_below HR.out hb1)
  have HB1 := Aside0.mk hb1
  clear HR hb1 hw1 g0 g1 lt0
  have hg := heap_alloc_new w1 (.cells #[.int .u8 0, .int .u8 0] 82)
  have hrow := made_row w1 #[.int .u8 0, .int .u8 0] #[.int .u8 255, .int .u8 3] 82
  have hsz := hi82
  go_upto_region 2 with (first
        | (with_reducible refine wpList_store_row rfl 82 (.tmp 7) (.tmp 13) rfl w1.heap.size #[.int .u8 255, .int .u8 3] rfl rfl 82 #[.int .u8 0, .int .u8 0] hg hsz rfl (by decide) ?_; rw [hrow]))
  clear hg hrow hsz q0 q1
  obtain ⟨w2, hw2⟩ : ∃ W, W = w1.alloc (.cells #[.int .u8 255, .int .u8 3] 82) := ⟨_, rfl⟩
  have hf : Kd.C (Kd.int .u8) w2 (some ⟨w.heap.size + 1, 0, none⟩) ([255, 3] : List Int).length [255, 3] := by rw [hw2, ← hs1]; exact full_reads w1
  have hb2 : Below w1.heap.size w1 w2 := by rw [hw2]; exact below_alloc (Below.refl _ _) _
  have d2 : w2.cell? ⟨w.heap.size, 2, none⟩ = some (.bool a0_2) := pw_cell_below hb2 ca2
  have d3 : w2.cell? ⟨w.heap.size, 3, none⟩ = some (.bool a0_3) := pw_cell_below hb2 ca3
  rw [← hw2]
  have HF := Aside0.mk hf
  have HR2 := Aside0.mk (Kd.C_below HR1.out hb2)
  have HB2 := Aside0.mk (below_then HB1.out HB1.out.size hb2)
  clear HR1 HB1 hb2 hw2 hf ca2 ca3
  have hcut := fun W => full_cut ⟨w.heap.size + 1, 0, none⟩ W
  unfold head_Get.f at H
  obtain ⟨has, hh, H0⟩ := Option.bind_eq_some_iff.1 H.out
  have HH := Aside0.mk hh
  have H1 := Aside0.mk H0
  clear H hh H0
  go_wp2_with fail
  refine (cutPrefix_calls A1 c1 l1 _ 2 [255, 3] has _ HR2.out HC.out HF.out (by decide) HH.out).mono ?_
  rintro e w3 ⟨A', c', rfl, ⟨nd, rfl⟩, hrm, hcm⟩
  obtain ⟨m, hm⟩ : ∃ m, m = cutOf has l1 [255, 3] := ⟨_, rfl⟩
  rw [← hm] at hrm hcm H1 ⊢
  have HRM := Aside0.mk hrm
  have HCM := Aside0.mk hcm
  clear hrm hcm hm
  cases has with
  | false =>
    cases a0_2 with
    | false =>
      have H2 := H1.out
      rw [if_pos ⟨rfl, rfl⟩] at H2
      obtain ⟨rfl, rfl, rfl⟩ : 0 = r1 ∧ 0 = r2 ∧ 7 = r3 := by simpa using H2
      clear H2
      go_wp2_with fail
      go_ret3
      exact ⟨rfl, pw_below_drewN HB2.out _⟩
    | true =>
      have H2 := H1.out
      rw [if_neg (fun h => by cases h.2)] at H2
      obtain ⟨⟨t1, t2, t3⟩, hp, H3⟩ := Option.bind_eq_some_iff.1 H2
      have HP := Aside0.mk hp
      clear H2 hp H1
      by_cases hz : t3 = 0
      · subst hz
        rw [if_pos rfl] at H3
        obtain ⟨rfl, rfl, rfl⟩ : t1 = r1 ∧ wrap64 (wrap64 ((l1.length : Int) - (m.length : Int)) + t2) = r2 ∧ 0 = r3 := by simpa using H3
        clear H3
        go_wp2_with fail
        refine (proto_Get.calls k _ _ m a0_3 t1 t2 0 _ (Kd.C_drewN HRM.out _) HCM.out HP.out).mono ?_
        rintro e w4 ⟨rfl, ⟨nd2, rfl⟩⟩
        go_wp2_with fail
        go_ret3
        exact ⟨by rfl, pw_below_drewN HB2.out _⟩
      · rw [if_neg hz] at H3
        obtain ⟨rfl, rfl, rfl⟩ : 0 = r1 ∧ 0 = r2 ∧ 7 = r3 := by simpa using H3
        clear H3
        have hz0 : (t3 == 0) = false := beq_eq_false_iff_ne.2 hz
        have hz1 : (t3 != 0) = true := bne_iff_ne.2 hz
        go_wp2_with fail
        refine (proto_Get.calls k _ _ m a0_3 t1 t2 t3 _ (Kd.C_drewN HRM.out _) HCM.out HP.out).mono ?_
        rintro e w4 ⟨rfl, ⟨nd2, rfl⟩⟩
        go_wp2_with fail
        go_ret3
        exact ⟨rfl, pw_below_drewN HB2.out _⟩
  | true =>
      have H2 := H1.out
      rw [if_neg (fun h => by cases h.1)] at H2
      obtain ⟨⟨t1, t2, t3⟩, hp, H3⟩ := Option.bind_eq_some_iff.1 H2
      have HP := Aside0.mk hp
      clear H2 hp H1
      by_cases hz : t3 = 0
      · subst hz
        rw [if_pos rfl] at H3
        obtain ⟨rfl, rfl, rfl⟩ : t1 = r1 ∧ wrap64 (wrap64 ((l1.length : Int) - (m.length : Int)) + t2) = r2 ∧ 0 = r3 := by simpa using H3
        clear H3
        go_wp2_with fail
        refine (proto_Get.calls k _ _ m a0_3 t1 t2 0 _ (Kd.C_drewN HRM.out _) HCM.out HP.out).mono ?_
        rintro e w4 ⟨rfl, ⟨nd2, rfl⟩⟩
        go_wp2_with fail
        go_ret3
        exact ⟨by rfl, pw_below_drewN HB2.out _⟩
      · rw [if_neg hz] at H3
        obtain ⟨rfl, rfl, rfl⟩ : 0 = r1 ∧ 0 = r2 ∧ 7 = r3 := by simpa using H3
        clear H3
        have hz0 : (t3 == 0) = false := beq_eq_false_iff_ne.2 hz
        have hz1 : (t3 != 0) = true := bne_iff_ne.2 hz
        go_wp2_with fail
        refine (proto_Get.calls k _ _ m a0_3 t1 t2 t3 _ (Kd.C_drewN HRM.out _) HCM.out HP.out).mono ?_
        rintro e w4 ⟨rfl, ⟨nd2, rfl⟩⟩
        go_wp2_with fail
        go_ret3
        exact ⟨rfl, pw_below_drewN HB2.out _⟩
end Go.Proofs.YtggpejjfgphihaaDoor.Given
end

section
namespace Go.Proofs.YtggpejjfgphihaaDoor.Given
open Go.RowKit Go.Proofs.YtggpejjfgphihaaDoorW.PrintWords Go.Proofs.YtggpejjfgphihaaDoorW.PrintLast Go.Proofs.YtggpejjfgphihaaDoorW.PrintMore
open Go.Proofs.YtggpejjfgphihaaDoor.H
set_option linter.unusedVariables false
set_option linter.unusedSimpArgs false
def head_Put.f (k : Nat) (a0_0 a0_1 a0_2 a0_3 : Bool) (a0_4 a0_5 a0_6 : Int) (a1 : Int) : Option (List Int) :=
  (proto_Put.f k a1 (a0_3 && !(a1 == 49185))).bind fun t => if (a0_2 && !(a1 == 49185)) = true then some t else if 0 < t.length ∧ t.length < 1000 then some ([255, 3] ++ t) else none
theorem full_cut2 (a : Addr) (W : World) : (Instr.sliceAt 82 (.pointer (some a)) none (some (.int .i64 2)) (some (.int .i64 2))).run Tryd.prog W = .ok (.slice (some a) 2 2) W := by
  obtain ⟨i0, hi0, _, hsz, _⟩ := info_parts info5
  have hu : Tryd.prog.underlying 82 = some (.array (Tryd.prog.arrayLen 82) (Tryd.prog.elem 82)) := by kernel_rfl
  rw [run_sliceAt_array_hm W 82 a hu .i64 .i64 2 2 (by decide) (by decide) (by rw [full_len]; decide), full_elem]
  simp [sizeOf, typeInfo, hi0, hsz, slicedAt, sliced, Result.andThen, Addr.add]
theorem full_at (w : World) : ∀ j u, [Value.int .u8 255, Value.int .u8 3][j]? = some u → (w.alloc (.cells #[.int .u8 255, .int .u8 3] 82)).cell? ((⟨w.heap.size, 0, none⟩ : Addr).add j) = some u := by
  intro j u h
  rw [add_plain, cell_of_row _ _ j _ 82 (0, 0) (heap_alloc_new w _)]
  match j, h with
  | 0, h => exact h
  | 1, h => exact h
  | j + 2, h => exact absurd h (by simp)
theorem news_at {w : World} {A : Option Addr} {t : List Int} (h : Kd.C (Kd.int .u8) w A t.length t) (hp : 0 < t.length) : ∃ ad, A = some ad ∧ ∀ j u, (encs (Value.int .u8) t)[j]? = some u → w.cell? (ad.add j) = some u := by
  obtain ⟨_, _, hc⟩ := Kd.reads_of_C (d := (0 : Int)) h
  obtain ⟨ad, ha, hj⟩ := hc hp
  refine ⟨ad, ha, fun j u hu => ?_⟩
  have hlt : j < t.length := by
    have := (List.getElem?_eq_some_iff.1 hu).1
    simpa [encs] using this
  rw [hj j hlt]
  rw [← hu]
  simp [encs, List.getD_eq_getElem?_getD, hlt]
set_option maxHeartbeats 8000000 in
set_option maxRecDepth 100000 in
theorem head_Put.calls (k : Nat) (a0_0 a0_1 a0_2 a0_3 : Bool) (a0_4 a0_5 a0_6 : Int) (a1 : Int) (r : List Int) (w : World) (hgH : GH w)
    (h : head_Put.f k a0_0 a0_1 a0_2 a0_3 a0_4 a0_5 a0_6 a1 = some r) :
    Calls Tryd.prog 32 #[.agg #[.bool a0_0, .bool a0_1, .bool a0_2, .bool a0_3, .int .u32 a0_4, .int .u32 a0_5, .int .i64 a0_6], .int .u16 a1] w fun e w' => ∃ v0_ : Value, e = .returned (v0_) ∧ Kd.Q (Kd.int .u8) 5 w' w.heap.size (fun _ => True) v0_ r ∧ Below w.heap.size w w' := by
  have HG := Aside0.mk hgH
  clear hgH
  obtain ⟨L, hL⟩ : ∃ L : Bool, L = (a1 == 49185) := ⟨_, rfl⟩
  obtain ⟨sh, hsh⟩ : ∃ sh : Bool, sh = (a0_3 && !L) := ⟨_, rfl⟩
  obtain ⟨bare, hbare⟩ : ∃ bare : Bool, bare = (a0_2 && !L) := ⟨_, rfl⟩
  unfold head_Put.f at h
  rw [← hL, ← hsh, ← hbare] at h
  obtain ⟨t, hp, h0⟩ := Option.bind_eq_some_iff.1 h
  have HP := Aside0.mk hp
  have H := Aside0.mk h0
  clear h hp h0
  go_enter Tryd.func32, Tryd.ntmps32
  go_upto_region 1 with (fail)
  obtain ⟨w1, hw1⟩ : ∃ W, W = w.alloc (.cells #[.bool a0_0, .bool a0_1, .bool a0_2, .bool a0_3, .int .u32 a0_4, .int .u32 a0_5, .int .i64 a0_6] 26) := ⟨_, rfl⟩
  have hb1 : Below w.heap.size w w1 := by rw [hw1]; exact below_alloc (Below.refl _ _) _
  have hs1 : w1.heap.size = w.heap.size + 1 := by rw [hw1]; simp
  have ca2 : w1.cell? ⟨w.heap.size, 2, none⟩ = some (.bool a0_2) := by rw [hw1]; exact cell_of_row _ _ 2 _ 26 (0, 0) (heap_alloc_new w _)
  have ca3 : w1.cell? ⟨w.heap.size, 3, none⟩ = some (.bool a0_3) := by rw [hw1]; exact cell_of_row _ _ 3 _ 26 (0, 0) (heap_alloc_new w _)
  rw [← hw1]
  have HB1 := Aside0.mk hb1
  have HS1 := Aside0.mk hs1
  clear hb1 hw1 hs1
  have hL' : (a1 == 49185) = L := hL.symm
  clear hL
  cases L <;> cases a0_3 <;> cases a0_2
  all_goals
    simp only [Bool.not_true, Bool.not_false, Bool.and_true, Bool.and_false, Bool.true_and, Bool.false_and] at hsh hbare
    subst hsh hbare
  all_goals
    go_wp2_with fail
    refine (proto_Put.calls k a1 _ t _ HP.out).mono ?_
    rintro e w3 ⟨v, rfl, hq, hb3⟩
    have d2 := pw_cell_below hb3 ca2
    have HQ := Aside0.mk hq
    have HB3 := Aside0.mk (below_then HB1.out HB1.out.size hb3)
    have HS3 := Aside0.mk hb3.size
    clear hq hb3
    have H2 := H.out
    simp only [Bool.false_eq_true, if_true, if_false] at H2
  all_goals first
    | (obtain rfl := Option.some.inj H2
       go_wp2_with fail
       go_ret
       exact ⟨_, rfl, Kd.Q_lower HQ.out (by have := HS1.out; omega), HB3.out⟩)
    | skip
  all_goals
    split at H2
    case isFalse => cases H2
    rename_i hlen
    obtain rfl := Option.some.inj H2
    obtain ⟨hl0, hl1⟩ := hlen
    obtain ⟨g, o, cap, rfl, hg1, hg2, _⟩ := Kd.Q_form HQ.out hl0
    obtain ⟨hn1, hn2, hn3⟩ := Kd.Q_reads' HQ.out
    have HN3 := Aside0.mk hn3
    have HL0 := Aside0.mk hl0
    have HL1 := Aside0.mk hl1
    obtain ⟨q0, q1⟩ := GH_below HG.out HB3.out
    have hg := heap_alloc_new w3 (.cells #[.int .u8 0, .int .u8 0] 82)
    have hrow := made_row w3 #[.int .u8 0, .int .u8 0] #[.int .u8 255, .int .u8 3] 82
    have hsz := hi82
    clear hl0 hl1 hn1 hn2 hn3 hg1 hg2 H2
    go_upto_region 6 with (first
          | (with_reducible refine wpList_store_row rfl 82 (.tmp 7) (.tmp 25) rfl w3.heap.size #[.int .u8 255, .int .u8 3] rfl rfl 82 #[.int .u8 0, .int .u8 0] hg hsz rfl (by decide) ?_; rw [hrow]))
    clear hg hrow hsz q0 q1
    have hcut := fun W => full_cut2 ⟨w3.heap.size, 0, none⟩ W
    have HF := Aside0.mk (full_at w3)
    obtain ⟨ad, had, hnews⟩ := news_at (Kd.C_below HN3.out (below_alloc (Below.refl _ _) (.cells #[.int .u8 255, .int .u8 3] 82))) HL0.out
    obtain rfl := Option.some.inj had
    have HB4 := Aside0.mk (below_alloc HB3.out (.cells #[.int .u8 255, .int .u8 3] 82))
    have HNW := Aside0.mk hnews
    have HS4 := Aside0.mk (show w.heap.size ≤ (w3.alloc (.cells #[.int .u8 255, .int .u8 3] 82)).heap.size from HB4.out.size)
    generalize w3.alloc (.cells #[.int .u8 255, .int .u8 3] 82) = w4 at HF HNW HB4 HS4 ⊢
    clear hnews had
    obtain ⟨i0, hi0, hz0, hsz0, hby0⟩ := info_parts info5
    go_wp2_with (first
          | ((with_reducible refine gate_builtin (b := .append) (xs := #[.tmp 26, .tmp 27]) rfl ?_)
             (try (refine gate_guard (by rfl) ?_; dsimp only))
             at_builtin
             refine wpList_append_grows _ rfl (.tmp 26) (.tmp 27) 35 rfl 5 i0 (.int .u8 0) 1 1 Tryd.underlying35 hi0 hz0 hsz0 hby0 rfl (by decide) (some ⟨w3.heap.size, 0, none⟩) 2 2 [.int .u8 255, .int .u8 3] rfl (fun h => by cases h) rfl (fun b hb => by cases hb; exact HF.out) ⟨g, o, none⟩ t.length cap (encs (Value.int .u8) t) rfl (by rw [encs_length, Nat.mul_one]) HNW.out (fun u hu => by obtain ⟨x, _, rfl⟩ := List.mem_map.1 hu; rfl) (by have := HL0.out; omega) (by have := HL1.out; simp only [maxLen]; omega) (by have := HL1.out; omega) ?_
             intro v' w5 hown hgr
             have HO := Aside0.mk hown
             have HGR := Aside0.mk hgr
             clear hown hgr))
    go_ret
    refine ⟨_, rfl, Kd.Q_lower (Kd.Q_of_R (Kd.R_of_own (enc := Value.int .u8) (xs := [255, 3] ++ t) (by have h_ := HO.out; rw [show ([255, 3] ++ t : List Int).length = 2 + t.length by rw [List.length_append]; rfl]; exact h_) (fun _ _ => trivial))) HS4.out, HB4.out.grown HGR.out HS4.out (fun k hk => by cases hk)⟩
end Go.Proofs.YtggpejjfgphihaaDoor.Given
end

section
namespace Go.Proofs.YtggpejjfgphihaaDoor.H
open Go.Proofs.YtggpejjfgphihaaDoor.Given Go.Proofs.YtggpejjfgphihaaDoor.D Go.RowKit Go.Proofs.YtggpejjfgphihaaDoorW.PrintWords Go.Proofs.YtggpejjfgphihaaDoorW.PrintLast Go.Proofs.YtggpejjfgphihaaDoorW.PrintMore
attribute [local go_sem] max2_int min2_int max_two min_two max_three min_three max_four min_four
set_option linter.unusedVariables false
set_option linter.unusedSimpArgs false
def marlineref09_Get.f (l0 : List Int) (a1 : Bool) : Option (Int × Int × Int) := if (l0.length : Int) = 0 then (some (0, 0, 2)) else (if 0 < (l0.length : Int) then (if (Int.tmod (rd l0 0) 2) = 1 then (if a1 = true then (if (rd l0 0) = 255 then (some (0, 0, 7)) else (some (wrap64 (rd l0 0), 1, 0))) else (some (0, 0, 7))) else (if (l0.length : Int) < 2 then (some (0, 0, 2)) else (if 1 < (l0.length : Int) then (if (Int.tmod (rd l0 1) 2) = 0 then (some (0, 0, 7)) else (if (rd l0 0) = 0 then (if (rd l0 1) = 255 then (some (0, 0, 7)) else (some (wrap64 ((wrap64 (256 * (wrap64 (rd l0 0)))) + (wrap64 (rd l0 1))), 2, 0))) else (some (wrap64 ((wrap64 (256 * (wrap64 (rd l0 0)))) + (wrap64 (rd l0 1))), 2, 0)))) else (none)))) else (none))
set_option maxHeartbeats 8000000 in
set_option maxRecDepth 100000 in
theorem marlineref09_Get.calls (A0 : Option Addr) (c0 : Nat) (l0 : List Int) (a1 : Bool) (r1 : Int) (r2 : Int) (r3 : Int) (w : World) (hr0 : Kd.C (Kd.int .u8) w A0 l0.length l0) (hc0 : l0.length ≤ c0) (h : marlineref09_Get.f l0 a1 = some (r1, r2, r3)) :
    Calls Tryd.prog 59 #[.slice A0 l0.length c0, .bool a1] w fun e w' => e = .returned (.tuple #[.int .i64 r1, .int .i64 r2, .int .i64 r3]) ∧ Drawn0 w w' := by
  have HR0 := Aside0.mk hr0
  have HC0 := Aside0.mk hc0
  clear hr0 hc0
  have H : (if (l0.length : Int) = 0 then (some (0, 0, 2)) else (if 0 < (l0.length : Int) then (if (Int.tmod (rd l0 0) 2) = 1 then (if a1 = true then (if (rd l0 0) = 255 then (some (0, 0, 7)) else (some (wrap64 (rd l0 0), 1, 0))) else (some (0, 0, 7))) else (if (l0.length : Int) < 2 then (some (0, 0, 2)) else (if 1 < (l0.length : Int) then (if (Int.tmod (rd l0 1) 2) = 0 then (some (0, 0, 7)) else (if (rd l0 0) = 0 then (if (rd l0 1) = 255 then (some (0, 0, 7)) else (some (wrap64 ((wrap64 (256 * (wrap64 (rd l0 0)))) + (wrap64 (rd l0 1))), 2, 0))) else (some (wrap64 ((wrap64 (256 * (wrap64 (rd l0 0)))) + (wrap64 (rd l0 1))), 2, 0)))) else (none)))) else (none))) = some (r1, r2, r3) := h
  clear h
  by_cases c3 : (l0.length : Int) = 0
  · rw [if_pos c3] at H
    have c3b0 : ((l0.length : Int) == 0) = true := beq_iff_eq.mpr c3
    have c3b1 : ((l0.length : Int) != 0) = false := bne_eq_false_iff_eq.mpr c3
    clear c3
    simp only [Option.some.injEq, Prod.mk.injEq] at H
    obtain ⟨rfl, rfl, rfl⟩ := H
    go_enter Tryd.func59, Tryd.ntmps59
    go_wp2
    repeat (go_quiet (fail); try go_wp2)
    go_ret3
    exact ⟨by first | rfl | (simp; done) | (simp [*]; done), by repeat (first | exact Drawn0.refl _ | apply Drawn0.step)⟩
  · rw [if_neg c3] at H
    have c3b0 : ((l0.length : Int) == 0) = false := beq_eq_false_iff_ne.mpr c3
    have c3b1 : ((l0.length : Int) != 0) = true := bne_iff_ne.mpr c3
    have c3b2 : ¬ (l0 = []) := fun h_ => c3 (by rw [h_]; rfl)
    by_cases c4 : 0 < (l0.length : Int)
    · rw [if_pos c4] at H
      have c4b0 : decide (0 < (l0.length : Int)) = true := decide_eq_true c4
      have c4b1 : decide (0 < l0.length) = true := decide_eq_true (by omega)
      clear c4
      by_cases c5 : (Int.tmod (rd l0 0) 2) = 1
      · rw [if_pos c5] at H
        have c5b0 : ((Int.tmod (rd l0 0) 2) == 1) = true := beq_iff_eq.mpr c5
        have c5b1 : ((Int.tmod (rd l0 0) 2) != 1) = false := bne_eq_false_iff_eq.mpr c5
        clear c5
        by_cases c6 : a1 = true
        · subst c6
          have H1 : (if (rd l0 0) = 255 then (some (0, 0, 7)) else (some (wrap64 (rd l0 0), 1, 0))) = some (r1, r2, r3) := by rw [if_pos rfl] at H; exact H
          clear H
          have H := H1
          clear H1
          by_cases c7 : (rd l0 0) = 255
          · rw [if_pos c7] at H
            have c7b0 : ((rd l0 0) == 255) = true := beq_iff_eq.mpr c7
            have c7b1 : ((rd l0 0) != 255) = false := bne_eq_false_iff_eq.mpr c7
            clear c7
            simp only [Option.some.injEq, Prod.mk.injEq] at H
            obtain ⟨rfl, rfl, rfl⟩ := H
            have p129 : 0 ≤ (0 : Int) := (by omega)
            have q129 : 0 < (l0.length : Int) := of_decide_eq_true (by first | (with_reducible assumption) | assumption)
            obtain ⟨ad129, e129, hx129_0⟩ := Kd.at_int HR0.out 0 p129 q129
            cases e129
            have qi129 : (0 < l0.length) = True := eq_true (by omega)
            (try rw [show ((0 : Int)).toNat = 0 from rfl] at hx129_0)
            (try rw [Addr.add_zero'] at hx129_0)
            replace p129 := eq_true p129
            replace q129 := eq_true q129
            have p130 : 0 ≤ (0 : Int) := (by omega)
            have q130 : 0 < (l0.length : Int) := of_decide_eq_true (by first | (with_reducible assumption) | assumption)
            obtain ⟨ad130, e130, hx130_0⟩ := Kd.at_int HR0.out 0 p130 q130
            obtain rfl : ad129 = ad130 := (by injection e130)
            have qi130 : (0 < l0.length) = True := eq_true (by omega)
            (try rw [show ((0 : Int)).toNat = 0 from rfl] at hx130_0)
            (try rw [Addr.add_zero'] at hx130_0)
            replace p130 := eq_true p130
            replace q130 := eq_true q130
            go_enter Tryd.func59, Tryd.ntmps59
            go_wp2
            repeat (go_quiet (fail); try go_wp2)
            go_ret3
            exact ⟨by first | rfl | (simp; done) | (simp [*]; done), by repeat (first | exact Drawn0.refl _ | apply Drawn0.step)⟩
          · rw [if_neg c7] at H
            have c7b0 : ((rd l0 0) == 255) = false := beq_eq_false_iff_ne.mpr c7
            have c7b1 : ((rd l0 0) != 255) = true := bne_iff_ne.mpr c7
            simp only [Option.some.injEq, Prod.mk.injEq] at H
            obtain ⟨rfl, rfl, rfl⟩ := H
            have p129 : 0 ≤ (0 : Int) := (by omega)
            have q129 : 0 < (l0.length : Int) := of_decide_eq_true (by first | (with_reducible assumption) | assumption)
            obtain ⟨ad129, e129, hx129_0⟩ := Kd.at_int HR0.out 0 p129 q129
            cases e129
            have qi129 : (0 < l0.length) = True := eq_true (by omega)
            (try rw [show ((0 : Int)).toNat = 0 from rfl] at hx129_0)
            (try rw [Addr.add_zero'] at hx129_0)
            replace p129 := eq_true p129
            replace q129 := eq_true q129
            have p130 : 0 ≤ (0 : Int) := (by omega)
            have q130 : 0 < (l0.length : Int) := of_decide_eq_true (by first | (with_reducible assumption) | assumption)
            obtain ⟨ad130, e130, hx130_0⟩ := Kd.at_int HR0.out 0 p130 q130
            obtain rfl : ad129 = ad130 := (by injection e130)
            have qi130 : (0 < l0.length) = True := eq_true (by omega)
            (try rw [show ((0 : Int)).toNat = 0 from rfl] at hx130_0)
            (try rw [Addr.add_zero'] at hx130_0)
            replace p130 := eq_true p130
            replace q130 := eq_true q130
            have p131 : 0 ≤ (0 : Int) := (by omega)
            have q131 : 0 < (l0.length : Int) := of_decide_eq_true (by first | (with_reducible assumption) | assumption)
            obtain ⟨ad131, e131, hx131_0⟩ := Kd.at_int HR0.out 0 p131 q131
            obtain rfl : ad129 = ad131 := (by injection e131)
            have qi131 : (0 < l0.length) = True := eq_true (by omega)
            (try rw [show ((0 : Int)).toNat = 0 from rfl] at hx131_0)
            (try rw [Addr.add_zero'] at hx131_0)
            replace p131 := eq_true p131
            replace q131 := eq_true q131
            go_enter Tryd.func59, Tryd.ntmps59
            go_wp2
            repeat (go_quiet (fail); try go_wp2)
            go_ret3
            exact ⟨by first | rfl | (simp; done) | (simp [*]; done), by repeat (first | exact Drawn0.refl _ | apply Drawn0.step)⟩
        · replace c6 := Bool.eq_false_iff.mpr c6
          subst c6
          have H1 : (some (0, 0, 7)) = some (r1, r2, r3) := by rw [if_neg (show ¬ (false = true) by decide)] at H; exact H
          clear H
          have H := H1
          clear H1
          simp only [Option.some.injEq, Prod.mk.injEq] at H
          obtain ⟨rfl, rfl, rfl⟩ := H
          have p129 : 0 ≤ (0 : Int) := (by omega)
          have q129 : 0 < (l0.length : Int) := of_decide_eq_true (by first | (with_reducible assumption) | assumption)
          obtain ⟨ad129, e129, hx129_0⟩ := Kd.at_int HR0.out 0 p129 q129
          cases e129
          have qi129 : (0 < l0.length) = True := eq_true (by omega)
          (try rw [show ((0 : Int)).toNat = 0 from rfl] at hx129_0)
          (try rw [Addr.add_zero'] at hx129_0)
          replace p129 := eq_true p129
          replace q129 := eq_true q129
          go_enter Tryd.func59, Tryd.ntmps59
          go_wp2
          repeat (go_quiet (fail); try go_wp2)
          go_ret3
          exact ⟨by first | rfl | (simp; done) | (simp [*]; done), by repeat (first | exact Drawn0.refl _ | apply Drawn0.step)⟩
      · rw [if_neg c5] at H
        have c5b0 : ((Int.tmod (rd l0 0) 2) == 1) = false := beq_eq_false_iff_ne.mpr c5
        have c5b1 : ((Int.tmod (rd l0 0) 2) != 1) = true := bne_iff_ne.mpr c5
        by_cases c8 : (l0.length : Int) < 2
        · rw [if_pos c8] at H
          have c8b0 : decide ((l0.length : Int) < 2) = true := decide_eq_true c8
          have c8b1 : decide (l0.length < 2) = true := decide_eq_true (by omega)
          clear c8
          simp only [Option.some.injEq, Prod.mk.injEq] at H
          obtain ⟨rfl, rfl, rfl⟩ := H
          have p129 : 0 ≤ (0 : Int) := (by omega)
          have q129 : 0 < (l0.length : Int) := of_decide_eq_true (by first | (with_reducible assumption) | assumption)
          obtain ⟨ad129, e129, hx129_0⟩ := Kd.at_int HR0.out 0 p129 q129
          cases e129
          have qi129 : (0 < l0.length) = True := eq_true (by omega)
          (try rw [show ((0 : Int)).toNat = 0 from rfl] at hx129_0)
          (try rw [Addr.add_zero'] at hx129_0)
          replace p129 := eq_true p129
          replace q129 := eq_true q129
          go_enter Tryd.func59, Tryd.ntmps59
          go_wp2
          repeat (go_quiet (fail); try go_wp2)
          go_ret3
          exact ⟨by first | rfl | (simp; done) | (simp [*]; done), by repeat (first | exact Drawn0.refl _ | apply Drawn0.step)⟩
        · rw [if_neg c8] at H
          have c8b0 : decide ((l0.length : Int) < 2) = false := decide_eq_false c8
          have c8b1 : decide (l0.length < 2) = false := decide_eq_false (by omega)
          clear c8
          by_cases c9 : 1 < (l0.length : Int)
          · rw [if_pos c9] at H
            have c9b0 : decide (1 < (l0.length : Int)) = true := decide_eq_true c9
            have c9b1 : decide (1 < l0.length) = true := decide_eq_true (by omega)
            clear c9
            by_cases c10 : (Int.tmod (rd l0 1) 2) = 0
            · rw [if_pos c10] at H
              have c10b0 : ((Int.tmod (rd l0 1) 2) == 0) = true := beq_iff_eq.mpr c10
              have c10b1 : ((Int.tmod (rd l0 1) 2) != 0) = false := bne_eq_false_iff_eq.mpr c10
              clear c10
              simp only [Option.some.injEq, Prod.mk.injEq] at H
              obtain ⟨rfl, rfl, rfl⟩ := H
              have p129 : 0 ≤ (0 : Int) := (by omega)
              have q129 : 0 < (l0.length : Int) := of_decide_eq_true (by first | (with_reducible assumption) | assumption)
              obtain ⟨ad129, e129, hx129_0⟩ := Kd.at_int HR0.out 0 p129 q129
              cases e129
              have qi129 : (0 < l0.length) = True := eq_true (by omega)
              (try rw [show ((0 : Int)).toNat = 0 from rfl] at hx129_0)
              (try rw [Addr.add_zero'] at hx129_0)
              replace p129 := eq_true p129
              replace q129 := eq_true q129
              have p132 : 0 ≤ (1 : Int) := (by omega)
              have q132 : 1 < (l0.length : Int) := of_decide_eq_true (by first | (with_reducible assumption) | assumption)
              obtain ⟨ad132, e132, hx132_0⟩ := Kd.at_int HR0.out 1 p132 q132
              obtain rfl : ad129 = ad132 := (by injection e132)
              (try simp only [show (1 : Int).toNat = 1 from rfl, Nat.reduceMul, Nat.reduceEqDiff, Go.Addr.add, ↓reduceIte] at hx132_0)
              have qi132 : (1 < l0.length) = True := eq_true (by omega)
              (try rw [show ((1 : Int)).toNat = 1 from rfl] at hx132_0)
              replace p132 := eq_true p132
              replace q132 := eq_true q132
              go_enter Tryd.func59, Tryd.ntmps59
              go_wp2
              repeat (go_quiet (fail); try go_wp2)
              go_ret3
              exact ⟨by first | rfl | (simp; done) | (simp [*]; done), by repeat (first | exact Drawn0.refl _ | apply Drawn0.step)⟩
            · rw [if_neg c10] at H
              have c10b0 : ((Int.tmod (rd l0 1) 2) == 0) = false := beq_eq_false_iff_ne.mpr c10
              have c10b1 : ((Int.tmod (rd l0 1) 2) != 0) = true := bne_iff_ne.mpr c10
              by_cases c11 : (rd l0 0) = 0
              · rw [if_pos c11] at H
                have c11b0 : ((rd l0 0) == 0) = true := beq_iff_eq.mpr c11
                have c11b1 : ((rd l0 0) != 0) = false := bne_eq_false_iff_eq.mpr c11
                clear c11
                by_cases c12 : (rd l0 1) = 255
                · rw [if_pos c12] at H
                  have c12b0 : ((rd l0 1) == 255) = true := beq_iff_eq.mpr c12
                  have c12b1 : ((rd l0 1) != 255) = false := bne_eq_false_iff_eq.mpr c12
                  clear c12
                  simp only [Option.some.injEq, Prod.mk.injEq] at H
                  obtain ⟨rfl, rfl, rfl⟩ := H
                  have p129 : 0 ≤ (0 : Int) := (by omega)
                  have q129 : 0 < (l0.length : Int) := of_decide_eq_true (by first | (with_reducible assumption) | assumption)
                  obtain ⟨ad129, e129, hx129_0⟩ := Kd.at_int HR0.out 0 p129 q129
                  cases e129
                  have qi129 : (0 < l0.length) = True := eq_true (by omega)
                  (try rw [show ((0 : Int)).toNat = 0 from rfl] at hx129_0)
                  (try rw [Addr.add_zero'] at hx129_0)
                  replace p129 := eq_true p129
                  replace q129 := eq_true q129
                  have p132 : 0 ≤ (1 : Int) := (by omega)
                  have q132 : 1 < (l0.length : Int) := of_decide_eq_true (by first | (with_reducible assumption) | assumption)
                  obtain ⟨ad132, e132, hx132_0⟩ := Kd.at_int HR0.out 1 p132 q132
                  obtain rfl : ad129 = ad132 := (by injection e132)
                  (try simp only [show (1 : Int).toNat = 1 from rfl, Nat.reduceMul, Nat.reduceEqDiff, Go.Addr.add, ↓reduceIte] at hx132_0)
                  have qi132 : (1 < l0.length) = True := eq_true (by omega)
                  (try rw [show ((1 : Int)).toNat = 1 from rfl] at hx132_0)
                  replace p132 := eq_true p132
                  replace q132 := eq_true q132
                  have p133 : 0 ≤ (0 : Int) := (by omega)
                  have q133 : 0 < (l0.length : Int) := of_decide_eq_true (by first | (with_reducible assumption) | assumption)
                  obtain ⟨ad133, e133, hx133_0⟩ := Kd.at_int HR0.out 0 p133 q133
                  obtain rfl : ad129 = ad133 := (by injection e133)
                  have qi133 : (0 < l0.length) = True := eq_true (by omega)
                  (try rw [show ((0 : Int)).toNat = 0 from rfl] at hx133_0)
                  (try rw [Addr.add_zero'] at hx133_0)
                  replace p133 := eq_true p133
                  replace q133 := eq_true q133
                  have p134 : 0 ≤ (1 : Int) := (by omega)
                  have q134 : 1 < (l0.length : Int) := of_decide_eq_true (by first | (with_reducible assumption) | assumption)
                  obtain ⟨ad134, e134, hx134_0⟩ := Kd.at_int HR0.out 1 p134 q134
                  obtain rfl : ad129 = ad134 := (by injection e134)
                  (try simp only [show (1 : Int).toNat = 1 from rfl, Nat.reduceMul, Nat.reduceEqDiff, Go.Addr.add, ↓reduceIte] at hx134_0)
                  have qi134 : (1 < l0.length) = True := eq_true (by omega)
                  (try rw [show ((1 : Int)).toNat = 1 from rfl] at hx134_0)
                  replace p134 := eq_true p134
                  replace q134 := eq_true q134
                  go_enter Tryd.func59, Tryd.ntmps59
                  go_wp2
                  repeat (go_quiet (fail); try go_wp2)
                  go_ret3
                  exact ⟨by first | rfl | (simp; done) | (simp [*]; done), by repeat (first | exact Drawn0.refl _ | apply Drawn0.step)⟩
                · rw [if_neg c12] at H
                  have c12b0 : ((rd l0 1) == 255) = false := beq_eq_false_iff_ne.mpr c12
                  have c12b1 : ((rd l0 1) != 255) = true := bne_iff_ne.mpr c12
                  simp only [Option.some.injEq, Prod.mk.injEq] at H
                  obtain ⟨rfl, rfl, rfl⟩ := H
                  have p129 : 0 ≤ (0 : Int) := (by omega)
                  have q129 : 0 < (l0.length : Int) := of_decide_eq_true (by first | (with_reducible assumption) | assumption)
                  obtain ⟨ad129, e129, hx129_0⟩ := Kd.at_int HR0.out 0 p129 q129
                  cases e129
                  have qi129 : (0 < l0.length) = True := eq_true (by omega)
                  (try rw [show ((0 : Int)).toNat = 0 from rfl] at hx129_0)
                  (try rw [Addr.add_zero'] at hx129_0)
                  replace p129 := eq_true p129
                  replace q129 := eq_true q129
                  have p132 : 0 ≤ (1 : Int) := (by omega)
                  have q132 : 1 < (l0.length : Int) := of_decide_eq_true (by first | (with_reducible assumption) | assumption)
                  obtain ⟨ad132, e132, hx132_0⟩ := Kd.at_int HR0.out 1 p132 q132
                  obtain rfl : ad129 = ad132 := (by injection e132)
                  (try simp only [show (1 : Int).toNat = 1 from rfl, Nat.reduceMul, Nat.reduceEqDiff, Go.Addr.add, ↓reduceIte] at hx132_0)
                  have qi132 : (1 < l0.length) = True := eq_true (by omega)
                  (try rw [show ((1 : Int)).toNat = 1 from rfl] at hx132_0)
                  replace p132 := eq_true p132
                  replace q132 := eq_true q132
                  have p133 : 0 ≤ (0 : Int) := (by omega)
                  have q133 : 0 < (l0.length : Int) := of_decide_eq_true (by first | (with_reducible assumption) | assumption)
                  obtain ⟨ad133, e133, hx133_0⟩ := Kd.at_int HR0.out 0 p133 q133
                  obtain rfl : ad129 = ad133 := (by injection e133)
                  have qi133 : (0 < l0.length) = True := eq_true (by omega)
                  (try rw [show ((0 : Int)).toNat = 0 from rfl] at hx133_0)
                  (try rw [Addr.add_zero'] at hx133_0)
                  replace p133 := eq_true p133
                  replace q133 := eq_true q133
                  have p134 : 0 ≤ (1 : Int) := (by omega)
                  have q134 : 1 < (l0.length : Int) := of_decide_eq_true (by first | (with_reducible assumption) | assumption)
                  obtain ⟨ad134, e134, hx134_0⟩ := Kd.at_int HR0.out 1 p134 q134
                  obtain rfl : ad129 = ad134 := (by injection e134)
                  (try simp only [show (1 : Int).toNat = 1 from rfl, Nat.reduceMul, Nat.reduceEqDiff, Go.Addr.add, ↓reduceIte] at hx134_0)
                  have qi134 : (1 < l0.length) = True := eq_true (by omega)
                  (try rw [show ((1 : Int)).toNat = 1 from rfl] at hx134_0)
                  replace p134 := eq_true p134
                  replace q134 := eq_true q134
                  have p135 : 0 ≤ (0 : Int) := (by omega)
                  have q135 : 0 < (l0.length : Int) := of_decide_eq_true (by first | (with_reducible assumption) | assumption)
                  obtain ⟨ad135, e135, hx135_0⟩ := Kd.at_int HR0.out 0 p135 q135
                  obtain rfl : ad129 = ad135 := (by injection e135)
                  have qi135 : (0 < l0.length) = True := eq_true (by omega)
                  (try rw [show ((0 : Int)).toNat = 0 from rfl] at hx135_0)
                  (try rw [Addr.add_zero'] at hx135_0)
                  replace p135 := eq_true p135
                  replace q135 := eq_true q135
                  have p136 : 0 ≤ (1 : Int) := (by omega)
                  have q136 : 1 < (l0.length : Int) := of_decide_eq_true (by first | (with_reducible assumption) | assumption)
                  obtain ⟨ad136, e136, hx136_0⟩ := Kd.at_int HR0.out 1 p136 q136
                  obtain rfl : ad129 = ad136 := (by injection e136)
                  (try simp only [show (1 : Int).toNat = 1 from rfl, Nat.reduceMul, Nat.reduceEqDiff, Go.Addr.add, ↓reduceIte] at hx136_0)
                  have qi136 : (1 < l0.length) = True := eq_true (by omega)
                  (try rw [show ((1 : Int)).toNat = 1 from rfl] at hx136_0)
                  replace p136 := eq_true p136
                  replace q136 := eq_true q136
                  go_enter Tryd.func59, Tryd.ntmps59
                  go_wp2
                  repeat (go_quiet (fail); try go_wp2)
                  go_ret3
                  exact ⟨by first | rfl | (simp; done) | (simp [*]; done), by repeat (first | exact Drawn0.refl _ | apply Drawn0.step)⟩
              · rw [if_neg c11] at H
                have c11b0 : ((rd l0 0) == 0) = false := beq_eq_false_iff_ne.mpr c11
                have c11b1 : ((rd l0 0) != 0) = true := bne_iff_ne.mpr c11
                simp only [Option.some.injEq, Prod.mk.injEq] at H
                obtain ⟨rfl, rfl, rfl⟩ := H
                have p129 : 0 ≤ (0 : Int) := (by omega)
                have q129 : 0 < (l0.length : Int) := of_decide_eq_true (by first | (with_reducible assumption) | assumption)
                obtain ⟨ad129, e129, hx129_0⟩ := Kd.at_int HR0.out 0 p129 q129
                cases e129
                have qi129 : (0 < l0.length) = True := eq_true (by omega)
                (try rw [show ((0 : Int)).toNat = 0 from rfl] at hx129_0)
                (try rw [Addr.add_zero'] at hx129_0)
                replace p129 := eq_true p129
                replace q129 := eq_true q129
                have p132 : 0 ≤ (1 : Int) := (by omega)
                have q132 : 1 < (l0.length : Int) := of_decide_eq_true (by first | (with_reducible assumption) | assumption)
                obtain ⟨ad132, e132, hx132_0⟩ := Kd.at_int HR0.out 1 p132 q132
                obtain rfl : ad129 = ad132 := (by injection e132)
                (try simp only [show (1 : Int).toNat = 1 from rfl, Nat.reduceMul, Nat.reduceEqDiff, Go.Addr.add, ↓reduceIte] at hx132_0)
                have qi132 : (1 < l0.length) = True := eq_true (by omega)
                (try rw [show ((1 : Int)).toNat = 1 from rfl] at hx132_0)
                replace p132 := eq_true p132
                replace q132 := eq_true q132
                have p133 : 0 ≤ (0 : Int) := (by omega)
                have q133 : 0 < (l0.length : Int) := of_decide_eq_true (by first | (with_reducible assumption) | assumption)
                obtain ⟨ad133, e133, hx133_0⟩ := Kd.at_int HR0.out 0 p133 q133
                obtain rfl : ad129 = ad133 := (by injection e133)
                have qi133 : (0 < l0.length) = True := eq_true (by omega)
                (try rw [show ((0 : Int)).toNat = 0 from rfl] at hx133_0)
                (try rw [Addr.add_zero'] at hx133_0)
                replace p133 := eq_true p133
                replace q133 := eq_true q133
                have p137 : 0 ≤ (0 : Int) := (by omega)
                have q137 : 0 < (l0.length : Int) := of_decide_eq_true (by first | (with_reducible assumption) | assumption)
                obtain ⟨ad137, e137, hx137_0⟩ := Kd.at_int HR0.out 0 p137 q137
                obtain rfl : ad129 = ad137 := (by injection e137)
                have qi137 : (0 < l0.length) = True := eq_true (by omega)
                (try rw [show ((0 : Int)).toNat = 0 from rfl] at hx137_0)
                (try rw [Addr.add_zero'] at hx137_0)
                replace p137 := eq_true p137
                replace q137 := eq_true q137
                have p138 : 0 ≤ (1 : Int) := (by omega)
                have q138 : 1 < (l0.length : Int) := of_decide_eq_true (by first | (with_reducible assumption) | assumption)
                obtain ⟨ad138, e138, hx138_0⟩ := Kd.at_int HR0.out 1 p138 q138
                obtain rfl : ad129 = ad138 := (by injection e138)
                (try simp only [show (1 : Int).toNat = 1 from rfl, Nat.reduceMul, Nat.reduceEqDiff, Go.Addr.add, ↓reduceIte] at hx138_0)
                have qi138 : (1 < l0.length) = True := eq_true (by omega)
                (try rw [show ((1 : Int)).toNat = 1 from rfl] at hx138_0)
                replace p138 := eq_true p138
                replace q138 := eq_true q138
                go_enter Tryd.func59, Tryd.ntmps59
                go_wp2
                repeat (go_quiet (fail); try go_wp2)
                go_ret3
                exact ⟨by first | rfl | (simp; done) | (simp [*]; done), by repeat (first | exact Drawn0.refl _ | apply Drawn0.step)⟩
          · rw [if_neg c9] at H
            exact absurd H (by simp)
    · rw [if_neg c4] at H
      exact absurd H (by simp)
end Go.Proofs.YtggpejjfgphihaaDoor.H
end

section
namespace Go.Proofs.YtggpejjfgphihaaDoor.H
open Go.Proofs.YtggpejjfgphihaaDoor.Given Go.Proofs.YtggpejjfgphihaaDoor.D Go.RowKit Go.Proofs.YtggpejjfgphihaaDoorW.PrintWords Go.Proofs.YtggpejjfgphihaaDoorW.PrintLast Go.Proofs.YtggpejjfgphihaaDoorW.PrintMore
attribute [local go_sem] max2_int min2_int max_two min_two max_three min_three max_four min_four
set_option linter.unusedVariables false
set_option linter.unusedSimpArgs false
def marlineref10_Get.j0 : Nat → List Int → Int → Bool → Bool → Bool → Bool → Bool → Int → Int → Int → Option (Int × Int × Int)
  | 0, _, _, _, _, _, _, _, _, _, _ => none
  | k + 1, x1, x7, x25, x140000, x140001, x140002, x140003, x140004, x140005, x140006 => if x25 = true then (if 2 ≤ (x1.length : Int) then ((marlineref09_Get.f (x1.drop 2) x140003).bind fun bt143 => (if bt143.2.2 = 0 then (some (bt143.1, wrap64 (2 + bt143.2.1), 0)) else (some (0, 0, 7)))) else (none)) else (if x140002 = true then (if 0 ≤ x7 then (if x7 ≤ (x1.length : Int) then ((marlineref09_Get.f (x1.drop (x7 : Int).toNat) x140003).bind fun bt147 => (if bt147.2.2 = 0 then (some (bt147.1, wrap64 (x7 + bt147.2.1), 0)) else (some (0, 0, 7)))) else (none)) else (none)) else (some (0, 0, 7)))
def marlineref10_Get.f (k : Nat) (a0_0 : Bool) (a0_1 : Bool) (a0_2 : Bool) (a0_3 : Bool) (a0_4 : Int) (a0_5 : Int) (a0_6 : Int) (l1 : List Int) : Option (Int × Int × Int) := if (l1.length : Int) ≥ 2 then (if 0 < (l1.length : Int) then (if (rd l1 0) = 255 then (if 1 < (l1.length : Int) then (marlineref10_Get.j0 k l1 0 ((rd l1 1) == 3) a0_0 a0_1 a0_2 a0_3 a0_4 a0_5 a0_6) else (none)) else (marlineref10_Get.j0 k l1 0 false a0_0 a0_1 a0_2 a0_3 a0_4 a0_5 a0_6)) else (none)) else (marlineref10_Get.j0 k l1 0 false a0_0 a0_1 a0_2 a0_3 a0_4 a0_5 a0_6)
set_option maxHeartbeats 8000000 in
set_option maxRecDepth 100000 in
theorem marlineref10_Get.calls (k : Nat) (a0_0 : Bool) (a0_1 : Bool) (a0_2 : Bool) (a0_3 : Bool) (a0_4 : Int) (a0_5 : Int) (a0_6 : Int) (A1 : Option Addr) (c1 : Nat) (l1 : List Int) (r1 : Int) (r2 : Int) (r3 : Int) (w : World) (hr1 : Kd.C (Kd.int .u8) w A1 l1.length l1) (hc1 : l1.length ≤ c1) (h : marlineref10_Get.f k a0_0 a0_1 a0_2 a0_3 a0_4 a0_5 a0_6 l1 = some (r1, r2, r3)) :
    Calls Tryd.prog 30 #[.agg #[.bool a0_0, .bool a0_1, .bool a0_2, .bool a0_3, .int .u32 a0_4, .int .u32 a0_5, .int .i64 a0_6], .slice A1 l1.length c1] w fun e w' => e = .returned (.tuple #[.int .i64 r1, .int .i64 r2, .int .i64 r3]) ∧ Below w.heap.size w w' := by
  have hu24 := Tryd.underlying24
  have HR1 := Aside0.mk hr1
  have HC1 := Aside0.mk hc1
  clear hr1 hc1
  have HB := Aside0.mk (Below.refl w.heap.size w)
  have H : (if (l1.length : Int) ≥ 2 then (if 0 < (l1.length : Int) then (if (rd l1 0) = 255 then (if 1 < (l1.length : Int) then (marlineref10_Get.j0 k l1 0 ((rd l1 1) == 3) a0_0 a0_1 a0_2 a0_3 a0_4 a0_5 a0_6) else (none)) else (marlineref10_Get.j0 k l1 0 false a0_0 a0_1 a0_2 a0_3 a0_4 a0_5 a0_6)) else (none)) else (marlineref10_Get.j0 k l1 0 false a0_0 a0_1 a0_2 a0_3 a0_4 a0_5 a0_6)) = some (r1, r2, r3) := h
  clear h
  have HC3 := Aside0.mk H
  clear H
  go_enter Tryd.func30, Tryd.ntmps30
  go_upto_region 2 with (first | ((with_reducible refine gate_dst (N := 2) rfl ?_); refine box_event ?hg (N := 2) ?hd (cs := #[.bool a0_0, .bool a0_1, .bool a0_2, .bool a0_3, .int .u32 a0_4, .int .u32 a0_5, .int .i64 a0_6]) (t := 24) ?hr ?_; (case hd => rfl); (case hg => rfl); (case hr => first | (go_simp; done) | (go_simp; rfl)); intro gb139 hg w4 hbox hb; have n0_ := Aside0.mk (below_step (by repeat (first | (with_reducible first | exact HB.out | apply below_alloc | apply pw_below_drewN | apply below_drew1) | exact HB.out)) hb); have n1_ := Aside0.mk (hbox); have n2_ := Aside0.mk ((by rw [hg]; exact (below_size (by repeat (first | (with_reducible first | exact HB.out | apply below_alloc | apply pw_below_drewN | apply below_drew1) | exact HB.out))) : w.heap.size ≤ gb139)); have n3_ := Aside0.mk ((by rw [hg]; exact (below_size (by repeat (first | (with_reducible first | exact HB.out | apply below_alloc | apply pw_below_drewN | apply below_drew1) | exact HB.out))) : w.heap.size ≤ gb139)); clear HB; have HB := n0_; have BK139 := n1_; have GW139 := n2_; have GE139 := n3_; clear n0_ n1_ n2_ n3_; clear hb hbox hg))
  repeat (go_quiet (first | ((with_reducible refine gate_dst (N := 2) rfl ?_); refine box_event ?hg (N := 2) ?hd (cs := #[.bool a0_0, .bool a0_1, .bool a0_2, .bool a0_3, .int .u32 a0_4, .int .u32 a0_5, .int .i64 a0_6]) (t := 24) ?hr ?_; (case hd => rfl); (case hg => rfl); (case hr => first | (go_simp; done) | (go_simp; rfl)); intro gb139 hg w4 hbox hb; have n0_ := Aside0.mk (below_step (by repeat (first | (with_reducible first | exact HB.out | apply below_alloc | apply pw_below_drewN | apply below_drew1) | exact HB.out)) hb); have n1_ := Aside0.mk (hbox); have n2_ := Aside0.mk ((by rw [hg]; exact (below_size (by repeat (first | (with_reducible first | exact HB.out | apply below_alloc | apply pw_below_drewN | apply below_drew1) | exact HB.out))) : w.heap.size ≤ gb139)); have n3_ := Aside0.mk ((by rw [hg]; exact (below_size (by repeat (first | (with_reducible first | exact HB.out | apply below_alloc | apply pw_below_drewN | apply below_drew1) | exact HB.out))) : w.heap.size ≤ gb139)); clear HB; have HB := n0_; have BK139 := n1_; have GW139 := n2_; have GE139 := n3_; clear n0_ n1_ n2_ n3_; clear hb hbox hg)); go_upto_region 2 with (first | ((with_reducible refine gate_dst (N := 2) rfl ?_); refine box_event ?hg (N := 2) ?hd (cs := #[.bool a0_0, .bool a0_1, .bool a0_2, .bool a0_3, .int .u32 a0_4, .int .u32 a0_5, .int .i64 a0_6]) (t := 24) ?hr ?_; (case hd => rfl); (case hg => rfl); (case hr => first | (go_simp; done) | (go_simp; rfl)); intro gb139 hg w4 hbox hb; have n0_ := Aside0.mk (below_step (by repeat (first | (with_reducible first | exact HB.out | apply below_alloc | apply pw_below_drewN | apply below_drew1) | exact HB.out)) hb); have n1_ := Aside0.mk (hbox); have n2_ := Aside0.mk ((by rw [hg]; exact (below_size (by repeat (first | (with_reducible first | exact HB.out | apply below_alloc | apply pw_below_drewN | apply below_drew1) | exact HB.out))) : w.heap.size ≤ gb139)); have n3_ := Aside0.mk ((by rw [hg]; exact (below_size (by repeat (first | (with_reducible first | exact HB.out | apply below_alloc | apply pw_below_drewN | apply below_drew1) | exact HB.out))) : w.heap.size ≤ gb139)); clear HB; have HB := n0_; have BK139 := n1_; have GW139 := n2_; have GE139 := n3_; clear n0_ n1_ n2_ n3_; clear hb hbox hg)))
  (try simp only [Act.put, List.setIfInBounds_toArray, List.set_cons_zero, List.set_cons_succ])
  go_cut [25] (fun v25 wc => ∃ (kq : Nat) (x25_2 : Bool), v25 = .bool x25_2 ∧ Aside0 (marlineref10_Get.j0 kq l1 0 x25_2 a0_0 a0_1 a0_2 a0_3 a0_4 a0_5 a0_6 = some (r1, r2, r3)) ∧ Aside0 (kq ≤ k) ∧ Aside0 (wc.heap[gb139]? = some (.cells #[.bool a0_0, .bool a0_1, .bool a0_2, .bool a0_3, .int .u32 a0_4, .int .u32 a0_5, .int .i64 a0_6] 24 (0, 0))) ∧ Aside0 (Below w.heap.size w wc))
  case first =>
    have H := HC3.out
    clear HC3
    by_cases c5 : (l1.length : Int) ≥ 2
    · rw [if_pos c5] at H
      have c5b0 : decide (2 ≤ (l1.length : Int)) = true := decide_eq_true c5
      have c5b1 : decide (2 ≤ l1.length) = true := decide_eq_true (by omega)
      clear c5
      (first | rw [c5b0] | (simp only [i64_w, i32_w]; rw [c5b0]) | skip)
      by_cases c6 : 0 < (l1.length : Int)
      · rw [if_pos c6] at H
        have c6b0 : decide (0 < (l1.length : Int)) = true := decide_eq_true c6
        have c6b1 : decide (0 < l1.length) = true := decide_eq_true (by omega)
        clear c6
        by_cases c7 : (rd l1 0) = 255
        · rw [if_pos c7] at H
          have c7b0 : ((rd l1 0) == 255) = true := beq_iff_eq.mpr c7
          have c7b1 : ((rd l1 0) != 255) = false := bne_eq_false_iff_eq.mpr c7
          clear c7
          by_cases c8 : 1 < (l1.length : Int)
          · rw [if_pos c8] at H
            have c8b0 : decide (1 < (l1.length : Int)) = true := decide_eq_true c8
            have c8b1 : decide (1 < l1.length) = true := decide_eq_true (by omega)
            clear c8
            have H' := Aside0.mk H
            clear H
            have p140 : 0 ≤ (0 : Int) := (by omega)
            have q140 : 0 < (l1.length : Int) := of_decide_eq_true (by first | (with_reducible assumption) | assumption)
            obtain ⟨ad140, e140, hx140_0⟩ := Kd.at_int HR1.out 0 p140 q140
            cases e140
            have qi140 : (0 < l1.length) = True := eq_true (by omega)
            (try rw [show ((0 : Int)).toNat = 0 from rfl] at hx140_0)
            (try rw [Addr.add_zero'] at hx140_0)
            replace hx140_0 := (HB.out.cell (World.block_lt_of_cell? w _ hx140_0)).trans hx140_0
            replace p140 := eq_true p140
            replace q140 := eq_true q140
            have p141 : 0 ≤ (1 : Int) := (by omega)
            have q141 : 1 < (l1.length : Int) := of_decide_eq_true (by first | (with_reducible assumption) | assumption)
            obtain ⟨ad141, e141, hx141_0⟩ := Kd.at_int HR1.out 1 p141 q141
            obtain rfl : ad140 = ad141 := (by injection e141)
            (try simp only [show (1 : Int).toNat = 1 from rfl, Nat.reduceMul, Nat.reduceEqDiff, Go.Addr.add, ↓reduceIte] at hx141_0)
            have qi141 : (1 < l1.length) = True := eq_true (by omega)
            (try rw [show ((1 : Int)).toNat = 1 from rfl] at hx141_0)
            replace hx141_0 := (HB.out.cell (World.block_lt_of_cell? w _ hx141_0)).trans hx141_0
            replace p141 := eq_true p141
            replace q141 := eq_true q141
            go_wp2
            repeat (go_quiet (fail); try go_wp2)
            go_meet
            case rel => exact ⟨_, (((rd l1 1) == 3)), (by first | rfl | (simp; done) | (simp [*]; done)), H', ⟨by first | omega | exact Nat.le_refl _⟩, ⟨by (with_reducible repeat (first | refine blk_drewN ?_ _ | refine blk_drew ?_ | refine blk_alloc ?_ _)); exact BK139.out⟩, ⟨by repeat (first | (with_reducible first | exact HB.out | apply below_alloc | apply pw_below_drewN | apply below_drew1 | refine below_set ?_ GE139.out) | exact HB.out)⟩⟩
          · rw [if_neg c8] at H
            exact absurd H (by simp)
        · rw [if_neg c7] at H
          have c7b0 : ((rd l1 0) == 255) = false := beq_eq_false_iff_ne.mpr c7
          have c7b1 : ((rd l1 0) != 255) = true := bne_iff_ne.mpr c7
          have H' := Aside0.mk H
          clear H
          have p140 : 0 ≤ (0 : Int) := (by omega)
          have q140 : 0 < (l1.length : Int) := of_decide_eq_true (by first | (with_reducible assumption) | assumption)
          obtain ⟨ad140, e140, hx140_0⟩ := Kd.at_int HR1.out 0 p140 q140
          cases e140
          have qi140 : (0 < l1.length) = True := eq_true (by omega)
          (try rw [show ((0 : Int)).toNat = 0 from rfl] at hx140_0)
          (try rw [Addr.add_zero'] at hx140_0)
          replace hx140_0 := (HB.out.cell (World.block_lt_of_cell? w _ hx140_0)).trans hx140_0
          replace p140 := eq_true p140
          replace q140 := eq_true q140
          go_wp2
          repeat (go_quiet (fail); try go_wp2)
          go_meet
          case rel => exact ⟨_, (false), (by first | rfl | (simp; done) | (simp [*]; done)), H', ⟨by first | omega | exact Nat.le_refl _⟩, ⟨by (with_reducible repeat (first | refine blk_drewN ?_ _ | refine blk_drew ?_ | refine blk_alloc ?_ _)); exact BK139.out⟩, ⟨by repeat (first | (with_reducible first | exact HB.out | apply below_alloc | apply pw_below_drewN | apply below_drew1 | refine below_set ?_ GE139.out) | exact HB.out)⟩⟩
      · rw [if_neg c6] at H
        exact absurd H (by simp)
    · rw [if_neg c5] at H
      have c5b0 : decide (2 ≤ (l1.length : Int)) = false := decide_eq_false c5
      have c5b1 : decide (2 ≤ l1.length) = false := decide_eq_false (by omega)
      clear c5
      (first | rw [c5b0] | (simp only [i64_w, i32_w]; rw [c5b0]) | skip)
      have H' := Aside0.mk H
      clear H
      go_wp2
      repeat (go_quiet (fail); try go_wp2)
      go_meet
      case rel => exact ⟨_, (false), (by first | rfl | (simp; done) | (simp [*]; done)), H', ⟨by first | omega | exact Nat.le_refl _⟩, ⟨by (with_reducible repeat (first | refine blk_drewN ?_ _ | refine blk_drew ?_ | refine blk_alloc ?_ _)); exact BK139.out⟩, ⟨by repeat (first | (with_reducible first | exact HB.out | apply below_alloc | apply pw_below_drewN | apply below_drew1 | refine below_set ?_ GE139.out) | exact HB.out)⟩⟩
  case rest =>
    clear HC3
    try clear c1
    try clear p1
    try clear q1
    try clear hx1
    try clear qi1
    try clear p2
    try clear c3
    try clear c5
    try clear c5b0
    try clear c5b1
    try clear c6
    try clear c6b0
    try clear c6b1
    try clear c7
    try clear c7b0
    try clear c7b1
    try clear c8
    try clear c8b0
    try clear c8b1
    try clear hx140_0
    try clear hx141_0
    try clear p140
    try clear p141
    try clear q140
    try clear q141
    obtain ⟨kq, x25_2, rfl, HA, HJ2, BK139, HB⟩ := hcut
    cases kq with
    | zero => exact absurd HA.out (by simp [marlineref10_Get.j0])
    | succ kj2 =>
      have H := HA.out
      clear HA
      simp only [marlineref10_Get.j0] at H
      by_cases c9 : x25_2 = true
      · subst c9
        have H1 : (if 2 ≤ (l1.length : Int) then ((marlineref09_Get.f (l1.drop 2) a0_3).bind fun bt143 => (if bt143.2.2 = 0 then (some (bt143.1, wrap64 (2 + bt143.2.1), 0)) else (some (0, 0, 7)))) else (none)) = some (r1, r2, r3) := by rw [if_pos rfl] at H; exact H
        clear H
        have H := H1
        clear H1
        by_cases c10 : 2 ≤ (l1.length : Int)
        · rw [if_pos c10] at H
          have c10b0 := eq_true c10
          have c10b1 : decide (2 ≤ (l1.length : Int)) = true := decide_eq_true c10
          clear c10
          replace H := Option.bind_eq_some_iff.mp H
          obtain ⟨⟨t143, t144, t145⟩, A110, H⟩ := H
          replace H : (if t145 = 0 then (some (t143, wrap64 (2 + t144), 0)) else (some (0, 0, 7))) = some (r1, r2, r3) := H
          have A11 := Aside0.mk A110
          clear A110
          by_cases c12 : t145 = 0
          · rw [if_pos c12] at H
            have c12b0 : (t145 == 0) = true := beq_iff_eq.mpr c12
            have c12b1 : (t145 != 0) = false := bne_eq_false_iff_eq.mpr c12
            clear c12
            simp only [Option.some.injEq, Prod.mk.injEq] at H
            obtain ⟨rfl, rfl, rfl⟩ := H
            obtain ⟨i013, hi013, _, hsz13, _⟩ := info_parts info5
            obtain ⟨A13, hcut13, hA13, hC13⟩ := print_drop_of (P := Tryd.prog) (Value.int .u8) 0 35 5 .i64 Tryd.underlying35 hi013 hsz13 A1 c1 l1 2 (by omega) (of_decide_eq_true (by first | (with_reducible assumption) | assumption)) HC1.out
            have HR142 := Aside0.mk (Kd.C_of_reads (h1 := fun _ => rfl) (hA13 _ (Kd.reads_of_C HR1.out)))
            have HC142 := Aside0.mk hC13
            clear hA13 hC13 hi013 hsz13
            have hcz14_0 : wc.cell? ⟨gb139, 0, none⟩ = some (.bool a0_0) := (blk_cell BK139.out 0).trans rfl
            have hcz14_1 : wc.cell? ⟨gb139, 1, none⟩ = some (.bool a0_1) := (blk_cell BK139.out 1).trans rfl
            have hcz14_2 : wc.cell? ⟨gb139, 2, none⟩ = some (.bool a0_2) := (blk_cell BK139.out 2).trans rfl
            have hcz14_3 : wc.cell? ⟨gb139, 3, none⟩ = some (.bool a0_3) := (blk_cell BK139.out 3).trans rfl
            have hcz14_4 : wc.cell? ⟨gb139, 4, none⟩ = some (.int .u32 a0_4) := (blk_cell BK139.out 4).trans rfl
            have hcz14_5 : wc.cell? ⟨gb139, 5, none⟩ = some (.int .u32 a0_5) := (blk_cell BK139.out 5).trans rfl
            have hcz14_6 : wc.cell? ⟨gb139, 6, none⟩ = some (.int .i64 a0_6) := (blk_cell BK139.out 6).trans rfl
            have hfz14_0 := blk_frozen BK139.out 0
            have hfz14_1 := blk_frozen BK139.out 1
            have hfz14_2 := blk_frozen BK139.out 2
            have hfz14_3 := blk_frozen BK139.out 3
            have hfz14_4 := blk_frozen BK139.out 4
            have hfz14_5 := blk_frozen BK139.out 5
            have hfz14_6 := blk_frozen BK139.out 6
            go_wp2_with (first | (go_at_call 59; refine calls_of_args (args' := #[.slice A13 (l1.drop 2).length (c1 - 2), .bool a0_3]) (by first | (rw [show (l1.drop 2).length = (l1.length - 2) from List.length_drop] <;> rfl) |  rfl) ?_; (with_reducible refine (marlineref09_Get.calls _ _ (l1.drop 2) a0_3 t143 t144 t145 _ ?side1 ?side2 A11.out).mono ?_); (case side1 => repeat (first | exact (Kd.C_below HR142.out HB.out) | (with_reducible refine Kd.C_alloc ?_ _) | (with_reducible refine Kd.C_drewN ?_ _) | (with_reducible refine Kd.C_drew ?_))); (case side2 => exact HC142.out); rintro e w' ⟨rfl, ⟨nd, rfl⟩⟩; (try first | exact ⟨rfl, _, World.drewN_drewN _ _ _⟩ | exact ⟨rfl, _, Eq.trans (World.drewN_drewN _ _ _) (congrArg (World.drewN _) (Nat.add_assoc _ _ _))⟩)))
            repeat (go_quiet (first | (go_at_call 59; refine calls_of_args (args' := #[.slice A13 (l1.drop 2).length (c1 - 2), .bool a0_3]) (by first | (rw [show (l1.drop 2).length = (l1.length - 2) from List.length_drop] <;> rfl) |  rfl) ?_; (with_reducible refine (marlineref09_Get.calls _ _ (l1.drop 2) a0_3 t143 t144 t145 _ ?side1 ?side2 A11.out).mono ?_); (case side1 => repeat (first | exact (Kd.C_below HR142.out HB.out) | (with_reducible refine Kd.C_alloc ?_ _) | (with_reducible refine Kd.C_drewN ?_ _) | (with_reducible refine Kd.C_drew ?_))); (case side2 => exact HC142.out); rintro e w' ⟨rfl, ⟨nd, rfl⟩⟩; (try first | exact ⟨rfl, _, World.drewN_drewN _ _ _⟩ | exact ⟨rfl, _, Eq.trans (World.drewN_drewN _ _ _) (congrArg (World.drewN _) (Nat.add_assoc _ _ _))⟩))); try go_wp2_with (first | (go_at_call 59; refine calls_of_args (args' := #[.slice A13 (l1.drop 2).length (c1 - 2), .bool a0_3]) (by first | (rw [show (l1.drop 2).length = (l1.length - 2) from List.length_drop] <;> rfl) |  rfl) ?_; (with_reducible refine (marlineref09_Get.calls _ _ (l1.drop 2) a0_3 t143 t144 t145 _ ?side1 ?side2 A11.out).mono ?_); (case side1 => repeat (first | exact (Kd.C_below HR142.out HB.out) | (with_reducible refine Kd.C_alloc ?_ _) | (with_reducible refine Kd.C_drewN ?_ _) | (with_reducible refine Kd.C_drew ?_))); (case side2 => exact HC142.out); rintro e w' ⟨rfl, ⟨nd, rfl⟩⟩; (try first | exact ⟨rfl, _, World.drewN_drewN _ _ _⟩ | exact ⟨rfl, _, Eq.trans (World.drewN_drewN _ _ _) (congrArg (World.drewN _) (Nat.add_assoc _ _ _))⟩))))
            go_ret3
            exact ⟨by first | rfl | (simp [errW_none, errW_some] <;> rfl) | (simp [*, errW_none, errW_some] <;> rfl), by repeat (first | (with_reducible first | exact HB.out | apply below_alloc | apply pw_below_drewN | apply below_drew1 | refine below_set ?_ GE139.out) | exact HB.out)⟩
          · rw [if_neg c12] at H
            have c12b0 : (t145 == 0) = false := beq_eq_false_iff_ne.mpr c12
            have c12b1 : (t145 != 0) = true := bne_iff_ne.mpr c12
            simp only [Option.some.injEq, Prod.mk.injEq] at H
            obtain ⟨rfl, rfl, rfl⟩ := H
            obtain ⟨i015, hi015, _, hsz15, _⟩ := info_parts info5
            obtain ⟨A15, hcut15, hA15, hC15⟩ := print_drop_of (P := Tryd.prog) (Value.int .u8) 0 35 5 .i64 Tryd.underlying35 hi015 hsz15 A1 c1 l1 2 (by omega) (of_decide_eq_true (by first | (with_reducible assumption) | assumption)) HC1.out
            have HR142 := Aside0.mk (Kd.C_of_reads (h1 := fun _ => rfl) (hA15 _ (Kd.reads_of_C HR1.out)))
            have HC142 := Aside0.mk hC15
            clear hA15 hC15 hi015 hsz15
            have hcz16_0 : wc.cell? ⟨gb139, 0, none⟩ = some (.bool a0_0) := (blk_cell BK139.out 0).trans rfl
            have hcz16_1 : wc.cell? ⟨gb139, 1, none⟩ = some (.bool a0_1) := (blk_cell BK139.out 1).trans rfl
            have hcz16_2 : wc.cell? ⟨gb139, 2, none⟩ = some (.bool a0_2) := (blk_cell BK139.out 2).trans rfl
            have hcz16_3 : wc.cell? ⟨gb139, 3, none⟩ = some (.bool a0_3) := (blk_cell BK139.out 3).trans rfl
            have hcz16_4 : wc.cell? ⟨gb139, 4, none⟩ = some (.int .u32 a0_4) := (blk_cell BK139.out 4).trans rfl
            have hcz16_5 : wc.cell? ⟨gb139, 5, none⟩ = some (.int .u32 a0_5) := (blk_cell BK139.out 5).trans rfl
            have hcz16_6 : wc.cell? ⟨gb139, 6, none⟩ = some (.int .i64 a0_6) := (blk_cell BK139.out 6).trans rfl
            have hfz16_0 := blk_frozen BK139.out 0
            have hfz16_1 := blk_frozen BK139.out 1
            have hfz16_2 := blk_frozen BK139.out 2
            have hfz16_3 := blk_frozen BK139.out 3
            have hfz16_4 := blk_frozen BK139.out 4
            have hfz16_5 := blk_frozen BK139.out 5
            have hfz16_6 := blk_frozen BK139.out 6
            go_wp2_with (first | (go_at_call 59; refine calls_of_args (args' := #[.slice A15 (l1.drop 2).length (c1 - 2), .bool a0_3]) (by first | (rw [show (l1.drop 2).length = (l1.length - 2) from List.length_drop] <;> rfl) |  rfl) ?_; (with_reducible refine (marlineref09_Get.calls _ _ (l1.drop 2) a0_3 t143 t144 t145 _ ?side1 ?side2 A11.out).mono ?_); (case side1 => repeat (first | exact (Kd.C_below HR142.out HB.out) | (with_reducible refine Kd.C_alloc ?_ _) | (with_reducible refine Kd.C_drewN ?_ _) | (with_reducible refine Kd.C_drew ?_))); (case side2 => exact HC142.out); rintro e w' ⟨rfl, ⟨nd, rfl⟩⟩; (try first | exact ⟨rfl, _, World.drewN_drewN _ _ _⟩ | exact ⟨rfl, _, Eq.trans (World.drewN_drewN _ _ _) (congrArg (World.drewN _) (Nat.add_assoc _ _ _))⟩)))
            repeat (go_quiet (first | (go_at_call 59; refine calls_of_args (args' := #[.slice A15 (l1.drop 2).length (c1 - 2), .bool a0_3]) (by first | (rw [show (l1.drop 2).length = (l1.length - 2) from List.length_drop] <;> rfl) |  rfl) ?_; (with_reducible refine (marlineref09_Get.calls _ _ (l1.drop 2) a0_3 t143 t144 t145 _ ?side1 ?side2 A11.out).mono ?_); (case side1 => repeat (first | exact (Kd.C_below HR142.out HB.out) | (with_reducible refine Kd.C_alloc ?_ _) | (with_reducible refine Kd.C_drewN ?_ _) | (with_reducible refine Kd.C_drew ?_))); (case side2 => exact HC142.out); rintro e w' ⟨rfl, ⟨nd, rfl⟩⟩; (try first | exact ⟨rfl, _, World.drewN_drewN _ _ _⟩ | exact ⟨rfl, _, Eq.trans (World.drewN_drewN _ _ _) (congrArg (World.drewN _) (Nat.add_assoc _ _ _))⟩))); try go_wp2_with (first | (go_at_call 59; refine calls_of_args (args' := #[.slice A15 (l1.drop 2).length (c1 - 2), .bool a0_3]) (by first | (rw [show (l1.drop 2).length = (l1.length - 2) from List.length_drop] <;> rfl) |  rfl) ?_; (with_reducible refine (marlineref09_Get.calls _ _ (l1.drop 2) a0_3 t143 t144 t145 _ ?side1 ?side2 A11.out).mono ?_); (case side1 => repeat (first | exact (Kd.C_below HR142.out HB.out) | (with_reducible refine Kd.C_alloc ?_ _) | (with_reducible refine Kd.C_drewN ?_ _) | (with_reducible refine Kd.C_drew ?_))); (case side2 => exact HC142.out); rintro e w' ⟨rfl, ⟨nd, rfl⟩⟩; (try first | exact ⟨rfl, _, World.drewN_drewN _ _ _⟩ | exact ⟨rfl, _, Eq.trans (World.drewN_drewN _ _ _) (congrArg (World.drewN _) (Nat.add_assoc _ _ _))⟩))))
            go_ret3
            exact ⟨by first | rfl | (simp [errW_none, errW_some] <;> rfl) | (simp [*, errW_none, errW_some] <;> rfl), by repeat (first | (with_reducible first | exact HB.out | apply below_alloc | apply pw_below_drewN | apply below_drew1 | refine below_set ?_ GE139.out) | exact HB.out)⟩
        · rw [if_neg c10] at H
          exact absurd H (by simp)
      · replace c9 := Bool.eq_false_iff.mpr c9
        subst c9
        have H1 : (if a0_2 = true then (if 0 ≤ 0 then (if 0 ≤ (l1.length : Int) then ((marlineref09_Get.f (l1.drop (0 : Int).toNat) a0_3).bind fun bt147 => (if bt147.2.2 = 0 then (some (bt147.1, wrap64 (0 + bt147.2.1), 0)) else (some (0, 0, 7)))) else (none)) else (none)) else (some (0, 0, 7))) = some (r1, r2, r3) := by rw [if_neg (show ¬ (false = true) by decide)] at H; exact H
        clear H
        have H := H1
        clear H1
        by_cases c17 : a0_2 = true
        · subst c17
          have H1 : (if 0 ≤ 0 then (if 0 ≤ (l1.length : Int) then ((marlineref09_Get.f (l1.drop (0 : Int).toNat) a0_3).bind fun bt147 => (if bt147.2.2 = 0 then (some (bt147.1, wrap64 (0 + bt147.2.1), 0)) else (some (0, 0, 7)))) else (none)) else (none)) = some (r1, r2, r3) := by rw [if_pos rfl] at H; exact H
          clear H
          have H := H1
          clear H1
          by_cases c18 : 0 ≤ 0
          · rw [if_pos c18] at H
            have c18b0 := eq_true c18
            have c18b1 : decide (0 ≤ 0) = true := decide_eq_true c18
            clear c18
            by_cases c19 : 0 ≤ (l1.length : Int)
            · rw [if_pos c19] at H
              have c19b0 := eq_true c19
              have c19b1 : decide (0 ≤ (l1.length : Int)) = true := decide_eq_true c19
              clear c19
              replace H := Option.bind_eq_some_iff.mp H
              obtain ⟨⟨t147, t148, t149⟩, A200, H⟩ := H
              replace H : (if t149 = 0 then (some (t147, wrap64 (0 + t148), 0)) else (some (0, 0, 7))) = some (r1, r2, r3) := H
              have A20 := Aside0.mk A200
              clear A200
              by_cases c21 : t149 = 0
              · rw [if_pos c21] at H
                have c21b0 : (t149 == 0) = true := beq_iff_eq.mpr c21
                have c21b1 : (t149 != 0) = false := bne_eq_false_iff_eq.mpr c21
                clear c21
                simp only [Option.some.injEq, Prod.mk.injEq] at H
                obtain ⟨rfl, rfl, rfl⟩ := H
                have hcz22_0 : wc.cell? ⟨gb139, 0, none⟩ = some (.bool a0_0) := (blk_cell BK139.out 0).trans rfl
                have hcz22_1 : wc.cell? ⟨gb139, 1, none⟩ = some (.bool a0_1) := (blk_cell BK139.out 1).trans rfl
                have hcz22_2 : wc.cell? ⟨gb139, 2, none⟩ = some (.bool true) := (blk_cell BK139.out 2).trans rfl
                have hcz22_3 : wc.cell? ⟨gb139, 3, none⟩ = some (.bool a0_3) := (blk_cell BK139.out 3).trans rfl
                have hcz22_4 : wc.cell? ⟨gb139, 4, none⟩ = some (.int .u32 a0_4) := (blk_cell BK139.out 4).trans rfl
                have hcz22_5 : wc.cell? ⟨gb139, 5, none⟩ = some (.int .u32 a0_5) := (blk_cell BK139.out 5).trans rfl
                have hcz22_6 : wc.cell? ⟨gb139, 6, none⟩ = some (.int .i64 a0_6) := (blk_cell BK139.out 6).trans rfl
                have hfz22_0 := blk_frozen BK139.out 0
                have hfz22_1 := blk_frozen BK139.out 1
                have hfz22_2 := blk_frozen BK139.out 2
                have hfz22_3 := blk_frozen BK139.out 3
                have hfz22_4 := blk_frozen BK139.out 4
                have hfz22_5 := blk_frozen BK139.out 5
                have hfz22_6 := blk_frozen BK139.out 6
                obtain ⟨i023, hi023, _, hsz23, _⟩ := info_parts info5
                obtain ⟨A23, hcut23, hA23, hC23⟩ := print_drop_of (P := Tryd.prog) (Value.int .u8) 0 35 5 .i64 Tryd.underlying35 hi023 hsz23 A1 c1 l1 0 (by omega) (of_decide_eq_true (by first | (with_reducible assumption) | assumption)) HC1.out
                have HR146 := Aside0.mk (Kd.C_of_reads (h1 := fun _ => rfl) (hA23 _ (Kd.reads_of_C HR1.out)))
                have HC146 := Aside0.mk hC23
                clear hA23 hC23 hi023 hsz23
                go_wp2_with (first | (go_at_call 59; refine calls_of_args (args' := #[.slice A23 (l1.drop (0 : Int).toNat).length (c1 - 0), .bool a0_3]) (by first | (rw [show (l1.drop (0 : Int).toNat).length = (l1.length - 0) from List.length_drop] <;> rfl) |  rfl) ?_; (with_reducible refine (marlineref09_Get.calls _ _ (l1.drop (0 : Int).toNat) a0_3 t147 t148 t149 _ ?side1 ?side2 A20.out).mono ?_); (case side1 => repeat (first | exact (Kd.C_below HR146.out HB.out) | (with_reducible refine Kd.C_alloc ?_ _) | (with_reducible refine Kd.C_drewN ?_ _) | (with_reducible refine Kd.C_drew ?_))); (case side2 => exact HC146.out); rintro e w' ⟨rfl, ⟨nd, rfl⟩⟩; (try first | exact ⟨rfl, _, World.drewN_drewN _ _ _⟩ | exact ⟨rfl, _, Eq.trans (World.drewN_drewN _ _ _) (congrArg (World.drewN _) (Nat.add_assoc _ _ _))⟩)))
                repeat (go_quiet (first | (go_at_call 59; refine calls_of_args (args' := #[.slice A23 (l1.drop (0 : Int).toNat).length (c1 - 0), .bool a0_3]) (by first | (rw [show (l1.drop (0 : Int).toNat).length = (l1.length - 0) from List.length_drop] <;> rfl) |  rfl) ?_; (with_reducible refine (marlineref09_Get.calls _ _ (l1.drop (0 : Int).toNat) a0_3 t147 t148 t149 _ ?side1 ?side2 A20.out).mono ?_); (case side1 => repeat (first | exact (Kd.C_below HR146.out HB.out) | (with_reducible refine Kd.C_alloc ?_ _) | (with_reducible refine Kd.C_drewN ?_ _) | (with_reducible refine Kd.C_drew ?_))); (case side2 => exact HC146.out); rintro e w' ⟨rfl, ⟨nd, rfl⟩⟩; (try first | exact ⟨rfl, _, World.drewN_drewN _ _ _⟩ | exact ⟨rfl, _, Eq.trans (World.drewN_drewN _ _ _) (congrArg (World.drewN _) (Nat.add_assoc _ _ _))⟩))); try go_wp2_with (first | (go_at_call 59; refine calls_of_args (args' := #[.slice A23 (l1.drop (0 : Int).toNat).length (c1 - 0), .bool a0_3]) (by first | (rw [show (l1.drop (0 : Int).toNat).length = (l1.length - 0) from List.length_drop] <;> rfl) |  rfl) ?_; (with_reducible refine (marlineref09_Get.calls _ _ (l1.drop (0 : Int).toNat) a0_3 t147 t148 t149 _ ?side1 ?side2 A20.out).mono ?_); (case side1 => repeat (first | exact (Kd.C_below HR146.out HB.out) | (with_reducible refine Kd.C_alloc ?_ _) | (with_reducible refine Kd.C_drewN ?_ _) | (with_reducible refine Kd.C_drew ?_))); (case side2 => exact HC146.out); rintro e w' ⟨rfl, ⟨nd, rfl⟩⟩; (try first | exact ⟨rfl, _, World.drewN_drewN _ _ _⟩ | exact ⟨rfl, _, Eq.trans (World.drewN_drewN _ _ _) (congrArg (World.drewN _) (Nat.add_assoc _ _ _))⟩))))
                go_ret3
                exact ⟨by first | rfl | (simp [errW_none, errW_some] <;> rfl) | (simp [*, errW_none, errW_some] <;> rfl), by repeat (first | (with_reducible first | exact HB.out | apply below_alloc | apply pw_below_drewN | apply below_drew1 | refine below_set ?_ GE139.out) | exact HB.out)⟩
              · rw [if_neg c21] at H
                have c21b0 : (t149 == 0) = false := beq_eq_false_iff_ne.mpr c21
                have c21b1 : (t149 != 0) = true := bne_iff_ne.mpr c21
                simp only [Option.some.injEq, Prod.mk.injEq] at H
                obtain ⟨rfl, rfl, rfl⟩ := H
                have hcz24_0 : wc.cell? ⟨gb139, 0, none⟩ = some (.bool a0_0) := (blk_cell BK139.out 0).trans rfl
                have hcz24_1 : wc.cell? ⟨gb139, 1, none⟩ = some (.bool a0_1) := (blk_cell BK139.out 1).trans rfl
                have hcz24_2 : wc.cell? ⟨gb139, 2, none⟩ = some (.bool true) := (blk_cell BK139.out 2).trans rfl
                have hcz24_3 : wc.cell? ⟨gb139, 3, none⟩ = some (.bool a0_3) := (blk_cell BK139.out 3).trans rfl
                have hcz24_4 : wc.cell? ⟨gb139, 4, none⟩ = some (.int .u32 a0_4) := (blk_cell BK139.out 4).trans rfl
                have hcz24_5 : wc.cell? ⟨gb139, 5, none⟩ = some (.int .u32 a0_5) := (blk_cell BK139.out 5).trans rfl
                have hcz24_6 : wc.cell? ⟨gb139, 6, none⟩ = some (.int .i64 a0_6) := (blk_cell BK139.out 6).trans rfl
                have hfz24_0 := blk_frozen BK139.out 0
                have hfz24_1 := blk_frozen BK139.out 1
                have hfz24_2 := blk_frozen BK139.out 2
                have hfz24_3 := blk_frozen BK139.out 3
                have hfz24_4 := blk_frozen BK139.out 4
                have hfz24_5 := blk_frozen BK139.out 5
                have hfz24_6 := blk_frozen BK139.out 6
                obtain ⟨i025, hi025, _, hsz25, _⟩ := info_parts info5
                obtain ⟨A25, hcut25, hA25, hC25⟩ := print_drop_of (P := Tryd.prog) (Value.int .u8) 0 35 5 .i64 Tryd.underlying35 hi025 hsz25 A1 c1 l1 0 (by omega) (of_decide_eq_true (by first | (with_reducible assumption) | assumption)) HC1.out
                have HR146 := Aside0.mk (Kd.C_of_reads (h1 := fun _ => rfl) (hA25 _ (Kd.reads_of_C HR1.out)))
                have HC146 := Aside0.mk hC25
                clear hA25 hC25 hi025 hsz25
                go_wp2_with (first | (go_at_call 59; refine calls_of_args (args' := #[.slice A25 (l1.drop (0 : Int).toNat).length (c1 - 0), .bool a0_3]) (by first | (rw [show (l1.drop (0 : Int).toNat).length = (l1.length - 0) from List.length_drop] <;> rfl) |  rfl) ?_; (with_reducible refine (marlineref09_Get.calls _ _ (l1.drop (0 : Int).toNat) a0_3 t147 t148 t149 _ ?side1 ?side2 A20.out).mono ?_); (case side1 => repeat (first | exact (Kd.C_below HR146.out HB.out) | (with_reducible refine Kd.C_alloc ?_ _) | (with_reducible refine Kd.C_drewN ?_ _) | (with_reducible refine Kd.C_drew ?_))); (case side2 => exact HC146.out); rintro e w' ⟨rfl, ⟨nd, rfl⟩⟩; (try first | exact ⟨rfl, _, World.drewN_drewN _ _ _⟩ | exact ⟨rfl, _, Eq.trans (World.drewN_drewN _ _ _) (congrArg (World.drewN _) (Nat.add_assoc _ _ _))⟩)))
                repeat (go_quiet (first | (go_at_call 59; refine calls_of_args (args' := #[.slice A25 (l1.drop (0 : Int).toNat).length (c1 - 0), .bool a0_3]) (by first | (rw [show (l1.drop (0 : Int).toNat).length = (l1.length - 0) from List.length_drop] <;> rfl) |  rfl) ?_; (with_reducible refine (marlineref09_Get.calls _ _ (l1.drop (0 : Int).toNat) a0_3 t147 t148 t149 _ ?side1 ?side2 A20.out).mono ?_); (case side1 => repeat (first | exact (Kd.C_below HR146.out HB.out) | (with_reducible refine Kd.C_alloc ?_ _) | (with_reducible refine Kd.C_drewN ?_ _) | (with_reducible refine Kd.C_drew ?_))); (case side2 => exact HC146.out); rintro e w' ⟨rfl, ⟨nd, rfl⟩⟩; (try first | exact ⟨rfl, _, World.drewN_drewN _ _ _⟩ | exact ⟨rfl, _, Eq.trans (World.drewN_drewN _ _ _) (congrArg (World.drewN _) (Nat.add_assoc _ _ _))⟩))); try go_wp2_with (first | (go_at_call 59; refine calls_of_args (args' := #[.slice A25 (l1.drop (0 : Int).toNat).length (c1 - 0), .bool a0_3]) (by first | (rw [show (l1.drop (0 : Int).toNat).length = (l1.length - 0) from List.length_drop] <;> rfl) |  rfl) ?_; (with_reducible refine (marlineref09_Get.calls _ _ (l1.drop (0 : Int).toNat) a0_3 t147 t148 t149 _ ?side1 ?side2 A20.out).mono ?_); (case side1 => repeat (first | exact (Kd.C_below HR146.out HB.out) | (with_reducible refine Kd.C_alloc ?_ _) | (with_reducible refine Kd.C_drewN ?_ _) | (with_reducible refine Kd.C_drew ?_))); (case side2 => exact HC146.out); rintro e w' ⟨rfl, ⟨nd, rfl⟩⟩; (try first | exact ⟨rfl, _, World.drewN_drewN _ _ _⟩ | exact ⟨rfl, _, Eq.trans (World.drewN_drewN _ _ _) (congrArg (World.drewN _) (Nat.add_assoc _ _ _))⟩))))
                go_ret3
                exact ⟨by first | rfl | (simp [errW_none, errW_some] <;> rfl) | (simp [*, errW_none, errW_some] <;> rfl), by repeat (first | (with_reducible first | exact HB.out | apply below_alloc | apply pw_below_drewN | apply below_drew1 | refine below_set ?_ GE139.out) | exact HB.out)⟩
            · rw [if_neg c19] at H
              exact absurd H (by simp)
          · rw [if_neg c18] at H
            exact absurd H (by simp)
        · replace c17 := Bool.eq_false_iff.mpr c17
          subst c17
          have H1 : (some (0, 0, 7)) = some (r1, r2, r3) := by rw [if_neg (show ¬ (false = true) by decide)] at H; exact H
          clear H
          have H := H1
          clear H1
          simp only [Option.some.injEq, Prod.mk.injEq] at H
          obtain ⟨rfl, rfl, rfl⟩ := H
          have hcz26_0 : wc.cell? ⟨gb139, 0, none⟩ = some (.bool a0_0) := (blk_cell BK139.out 0).trans rfl
          have hcz26_1 : wc.cell? ⟨gb139, 1, none⟩ = some (.bool a0_1) := (blk_cell BK139.out 1).trans rfl
          have hcz26_2 : wc.cell? ⟨gb139, 2, none⟩ = some (.bool false) := (blk_cell BK139.out 2).trans rfl
          have hcz26_3 : wc.cell? ⟨gb139, 3, none⟩ = some (.bool a0_3) := (blk_cell BK139.out 3).trans rfl
          have hcz26_4 : wc.cell? ⟨gb139, 4, none⟩ = some (.int .u32 a0_4) := (blk_cell BK139.out 4).trans rfl
          have hcz26_5 : wc.cell? ⟨gb139, 5, none⟩ = some (.int .u32 a0_5) := (blk_cell BK139.out 5).trans rfl
          have hcz26_6 : wc.cell? ⟨gb139, 6, none⟩ = some (.int .i64 a0_6) := (blk_cell BK139.out 6).trans rfl
          have hfz26_0 := blk_frozen BK139.out 0
          have hfz26_1 := blk_frozen BK139.out 1
          have hfz26_2 := blk_frozen BK139.out 2
          have hfz26_3 := blk_frozen BK139.out 3
          have hfz26_4 := blk_frozen BK139.out 4
          have hfz26_5 := blk_frozen BK139.out 5
          have hfz26_6 := blk_frozen BK139.out 6
          go_wp2
          repeat (go_quiet (fail); try go_wp2)
          go_ret3
          exact ⟨by first | rfl | (simp [errW_none, errW_some] <;> rfl) | (simp [*, errW_none, errW_some] <;> rfl), by repeat (first | (with_reducible first | exact HB.out | apply below_alloc | apply pw_below_drewN | apply below_drew1 | refine below_set ?_ GE139.out) | exact HB.out)⟩
def marlineref09_Put.f (a0 : Int) (a1 : Bool) : Option (List Int) := if a1 = true then (if a0 < 256 then (some (([(a0) % 256] : List Int))) else (some (([(wrap64 (Int.tdiv a0 256)) % 256, (Int.tmod a0 256) % 256] : List Int)))) else (some (([(wrap64 (Int.tdiv a0 256)) % 256, (Int.tmod a0 256) % 256] : List Int)))
set_option maxHeartbeats 8000000 in
set_option maxRecDepth 100000 in
theorem marlineref09_Put.calls (a0 : Int) (a1 : Bool) (r : List Int) (w : World) (h : marlineref09_Put.f a0 a1 = some r) :
    Calls Tryd.prog 61 #[.int .i64 a0, .bool a1] w fun e w' => ∃ v0_ : Value, e = .returned (v0_) ∧ Kd.R (Kd.int .u8) 5 w' w.heap.size (fun _ => True) v0_ r ∧ Below w.heap.size w w' := by
  have HB := Aside0.mk (Below.refl w.heap.size w)
  have H : (if a1 = true then (if a0 < 256 then (some (([(a0) % 256] : List Int))) else (some (([(wrap64 (Int.tdiv a0 256)) % 256, (Int.tmod a0 256) % 256] : List Int)))) else (some (([(wrap64 (Int.tdiv a0 256)) % 256, (Int.tmod a0 256) % 256] : List Int)))) = some r := h
  clear h
  by_cases c3 : a1 = true
  · subst c3
    have H1 : (if a0 < 256 then (some (([(a0) % 256] : List Int))) else (some (([(wrap64 (Int.tdiv a0 256)) % 256, (Int.tmod a0 256) % 256] : List Int)))) = some r := by rw [if_pos rfl] at H; exact H
    clear H
    have H := H1
    clear H1
    by_cases c4 : a0 < 256
    · rw [if_pos c4] at H
      have c4b0 : decide (a0 < 256) = true := decide_eq_true c4
      clear c4
      obtain ⟨y150, hy150⟩ : ∃ y_ : List Int, y_ = (([(a0) % 256] : List Int)) := ⟨_, rfl⟩
      replace H : (some y150) = some r := by first | (rw [hy150]; with_reducible exact H) | (have H2_ := (Option.bind_some _ _).symm.trans H; rw [hy150]; with_reducible exact H2_) | (have H2_ := (Option.bind_some _ _).symm.trans H; with_reducible exact H2_) | with_reducible exact H | (rw [hy150]; exact H) | exact H
      have Ny150 := Aside0.mk hy150
      clear hy150
      obtain rfl := Option.some.inj H
      go_enter Tryd.func61, Tryd.ntmps61
      go_wp2_with (first | ((with_reducible refine gate_dst (N := 12) rfl ?_); refine Kd.R_lit (Kd.int .u8) _ 5 ?hg (N := 12) ?hd (xs := ([(a0) % 256] : List Int)) (inner := [.int .u8 ((a0) % 256)]) (ok := fun _ => True) (okp := fun _ => True) ?hr ?hp (fun _ hk => hk) trivial (Below.refl _ _) (Nat.le_refl _) (by simp) ?_; (case hd => rfl); (case hg => rfl); (case hr => first | (go_simp; done) | (go_simp; rfl)); (case hp => exact (Reps.one (show Kd.M (Kd.int .u8) _ _ _ ((a0) % 256) [.int .u8 ((a0) % 256)] from rfl) (Reps.none _ _))); intro v151 w5 ho6 hb hg_ hnew_; clear hg_ hnew_; (first | rw [← Ny150.out] at ho6 | (simp only [Int.reduceToNat] at ho6; rw [← Ny150.out] at ho6)); have n0_ := Aside0.mk (Kd.R_lower ho6 (below_size (by repeat (first | (with_reducible first | exact HB.out | apply below_alloc | apply pw_below_drewN | apply below_drew1) | exact HB.out)))); have n1_ := Aside0.mk (below_step (by repeat (first | (with_reducible first | exact HB.out | apply below_alloc | apply pw_below_drewN | apply below_drew1) | exact HB.out)) hb); clear HB; have HO152 := n0_; have HB := n1_; clear n0_ n1_; clear hb ho6))
      go_ret
      exact ⟨_, by first | rfl | (simp [errW_none, errW_some] <;> rfl) | (simp [*, errW_none, errW_some] <;> rfl), by (with_reducible repeat (first | apply Kd.R_alloc | apply Kd.R_drewN | apply Kd.R_drew)); exact HO152.out, by repeat (first | (with_reducible first | exact HB.out | apply below_alloc | apply pw_below_drewN | apply below_drew1) | exact HB.out)⟩
    · rw [if_neg c4] at H
      have c4b0 : decide (a0 < 256) = false := decide_eq_false c4
      clear c4
      obtain ⟨y153, hy153⟩ : ∃ y_ : List Int, y_ = (([(wrap64 (Int.tdiv a0 256)) % 256, (Int.tmod a0 256) % 256] : List Int)) := ⟨_, rfl⟩
      replace H : (some y153) = some r := by first | (rw [hy153]; with_reducible exact H) | (have H2_ := (Option.bind_some _ _).symm.trans H; rw [hy153]; with_reducible exact H2_) | (have H2_ := (Option.bind_some _ _).symm.trans H; with_reducible exact H2_) | with_reducible exact H | (rw [hy153]; exact H) | exact H
      have Ny153 := Aside0.mk hy153
      clear hy153
      obtain rfl := Option.some.inj H
      go_enter Tryd.func61, Tryd.ntmps61
      go_wp2_with (first | ((with_reducible refine gate_dst (N := 19) rfl ?_); refine Kd.R_lit (Kd.int .u8) _ 5 ?hg (N := 19) ?hd (xs := ([(wrap64 (Int.tdiv a0 256)) % 256, (Int.tmod a0 256) % 256] : List Int)) (inner := [.int .u8 ((wrap64 (Int.tdiv a0 256)) % 256), .int .u8 ((Int.tmod a0 256) % 256)]) (ok := fun _ => True) (okp := fun _ => True) ?hr ?hp (fun _ hk => hk) trivial (Below.refl _ _) (Nat.le_refl _) (by simp) ?_; (case hd => rfl); (case hg => rfl); (case hr => first | (go_simp; done) | (go_simp; rfl)); (case hp => exact (Reps.one (show Kd.M (Kd.int .u8) _ _ _ ((wrap64 (Int.tdiv a0 256)) % 256) [.int .u8 ((wrap64 (Int.tdiv a0 256)) % 256)] from rfl) (Reps.one (show Kd.M (Kd.int .u8) _ _ _ ((Int.tmod a0 256) % 256) [.int .u8 ((Int.tmod a0 256) % 256)] from rfl) (Reps.none _ _)))); intro v154 w7 ho8 hb hg_ hnew_; clear hg_ hnew_; (first | rw [← Ny153.out] at ho8 | (simp only [Int.reduceToNat] at ho8; rw [← Ny153.out] at ho8)); have n0_ := Aside0.mk (Kd.R_lower ho8 (below_size (by repeat (first | (with_reducible first | exact HB.out | apply below_alloc | apply pw_below_drewN | apply below_drew1) | exact HB.out)))); have n1_ := Aside0.mk (below_step (by repeat (first | (with_reducible first | exact HB.out | apply below_alloc | apply pw_below_drewN | apply below_drew1) | exact HB.out)) hb); clear HB; have HO155 := n0_; have HB := n1_; clear n0_ n1_; clear hb ho8))
      go_ret
      exact ⟨_, by first | rfl | (simp [errW_none, errW_some] <;> rfl) | (simp [*, errW_none, errW_some] <;> rfl), by (with_reducible repeat (first | apply Kd.R_alloc | apply Kd.R_drewN | apply Kd.R_drew)); exact HO155.out, by repeat (first | (with_reducible first | exact HB.out | apply below_alloc | apply pw_below_drewN | apply below_drew1) | exact HB.out)⟩
  · replace c3 := Bool.eq_false_iff.mpr c3
    subst c3
    have H1 : (some (([(wrap64 (Int.tdiv a0 256)) % 256, (Int.tmod a0 256) % 256] : List Int))) = some r := by rw [if_neg (show ¬ (false = true) by decide)] at H; exact H
    clear H
    have H := H1
    clear H1
    obtain ⟨y156, hy156⟩ : ∃ y_ : List Int, y_ = (([(wrap64 (Int.tdiv a0 256)) % 256, (Int.tmod a0 256) % 256] : List Int)) := ⟨_, rfl⟩
    replace H : (some y156) = some r := by first | (rw [hy156]; with_reducible exact H) | (have H2_ := (Option.bind_some _ _).symm.trans H; rw [hy156]; with_reducible exact H2_) | (have H2_ := (Option.bind_some _ _).symm.trans H; with_reducible exact H2_) | with_reducible exact H | (rw [hy156]; exact H) | exact H
    have Ny156 := Aside0.mk hy156
    clear hy156
    obtain rfl := Option.some.inj H
    go_enter Tryd.func61, Tryd.ntmps61
    go_wp2_with (first | ((with_reducible refine gate_dst (N := 19) rfl ?_); refine Kd.R_lit (Kd.int .u8) _ 5 ?hg (N := 19) ?hd (xs := ([(wrap64 (Int.tdiv a0 256)) % 256, (Int.tmod a0 256) % 256] : List Int)) (inner := [.int .u8 ((wrap64 (Int.tdiv a0 256)) % 256), .int .u8 ((Int.tmod a0 256) % 256)]) (ok := fun _ => True) (okp := fun _ => True) ?hr ?hp (fun _ hk => hk) trivial (Below.refl _ _) (Nat.le_refl _) (by simp) ?_; (case hd => rfl); (case hg => rfl); (case hr => first | (go_simp; done) | (go_simp; rfl)); (case hp => exact (Reps.one (show Kd.M (Kd.int .u8) _ _ _ ((wrap64 (Int.tdiv a0 256)) % 256) [.int .u8 ((wrap64 (Int.tdiv a0 256)) % 256)] from rfl) (Reps.one (show Kd.M (Kd.int .u8) _ _ _ ((Int.tmod a0 256) % 256) [.int .u8 ((Int.tmod a0 256) % 256)] from rfl) (Reps.none _ _)))); intro v157 w9 ho10 hb hg_ hnew_; clear hg_ hnew_; (first | rw [← Ny156.out] at ho10 | (simp only [Int.reduceToNat] at ho10; rw [← Ny156.out] at ho10)); have n0_ := Aside0.mk (Kd.R_lower ho10 (below_size (by repeat (first | (with_reducible first | exact HB.out | apply below_alloc | apply pw_below_drewN | apply below_drew1) | exact HB.out)))); have n1_ := Aside0.mk (below_step (by repeat (first | (with_reducible first | exact HB.out | apply below_alloc | apply pw_below_drewN | apply below_drew1) | exact HB.out)) hb); clear HB; have HO158 := n0_; have HB := n1_; clear n0_ n1_; clear hb ho10))
    go_ret
    exact ⟨_, by first | rfl | (simp [errW_none, errW_some] <;> rfl) | (simp [*, errW_none, errW_some] <;> rfl), by (with_reducible repeat (first | apply Kd.R_alloc | apply Kd.R_drewN | apply Kd.R_drew)); exact HO158.out, by repeat (first | (with_reducible first | exact HB.out | apply below_alloc | apply pw_below_drewN | apply below_drew1) | exact HB.out)⟩
end Go.Proofs.YtggpejjfgphihaaDoor.H
end
