/- fcs.Sum: the sum of octets; and the document's example (marlinelaw02.speaks), which is true. -/
import Derived.Test.YtggpejjfgphihaaDoorGMore
import Derived.Lib.SlBytesConst
import Derived.Lib.SmallJoins
import Derived.Deep.RegionHeld3
namespace Go.Proofs.YtggpejjfgphihaaDoor.Given
open Go.RowKit Go.Proofs.YtggpejjfgphihaaDoorW.PrintWords
open Go.Proofs.YtggpejjfgphihaaDoor.Crc (it st more)
set_option linter.unusedVariables false

/-- the sum of octets, as a plain number -/
def sumN (a0 : Bool) (l : List Nat) : Nat := more (polyOf a0) (widthOf a0 - 1) l ^^^ (widthOf a0 - 1)
def fcs_Sum.f (a0 : Bool) (l1 : List Int) : Option Int := if l1.all okByte = true then some ((sumN a0 (l1.map Int.toNat) : Nat) : Int) else none
theorem more_lt (a0 : Bool) (r : Nat) (hr : r < widthOf a0) (l : List Nat) (hl : ∀ x ∈ l, x < 256) : more (polyOf a0) r l < widthOf a0 := by
  induction l generalizing r with
  | nil => exact hr
  | cons c l ih =>
    refine ih _ ?_ (fun x hx => hl x (List.mem_cons_of_mem _ hx))
    have hc := hl c List.mem_cons_self
    cases a0
    · exact Crc.it_lt (w := 16) 8 (by decide) (Nat.xor_lt_two_pow hr (by omega))
    · exact Crc.it_lt (w := 32) 8 (by decide) (Nat.xor_lt_two_pow hr (by omega))
theorem bytes_of {l : List Int} (h : l.all okByte = true) : ∀ x ∈ l.map Int.toNat, x < 256 := by
  intro x hx
  obtain ⟨y, hy, rfl⟩ := List.mem_map.1 hx
  have := List.all_eq_true.1 h y hy
  simp [okByte] at this
  omega
theorem sum_lt (a0 : Bool) (l : List Nat) (hl : ∀ x ∈ l, x < 256) : sumN a0 l < widthOf a0 := by
  unfold sumN
  have h := more_lt a0 (widthOf a0 - 1) (by cases a0 <;> decide) l hl
  cases a0
  · exact Nat.xor_lt_two_pow (n := 16) h (by decide)
  · exact Nat.xor_lt_two_pow (n := 32) h (by decide)

set_option maxHeartbeats 2000000 in
set_option maxRecDepth 100000 in
theorem fcs_Sum.calls (a0 : Bool) (A1 : Option Addr) (c1 : Nat) (l1 : List Int) (r : Int) (w : World) (hr1 : Kd.C (Kd.int .u8) w A1 l1.length l1) (hc1 : l1.length ≤ c1) (hgF : GF w) (h : fcs_Sum.f a0 l1 = some r) :
    Calls Tryd.prog 27 #[.bool a0, .slice A1 l1.length c1] w fun e w' => e = .returned (.int .u32 r) ∧ Below w.heap.size w w' := by
  unfold fcs_Sum.f at h
  split at h
  case isFalse => cases h
  rename_i hl
  obtain rfl := Option.some.inj h
  clear h
  obtain ⟨r1, r2, r3, r4, hof⟩ : ∃ r1 r2 r3 r4, fcs_of.f a0 = some (r1, r2, r3, r4) := by cases a0 <;> exact ⟨_, _, _, _, rfl⟩
  have hr2 : r2 = ((widthOf a0 - 1 : Nat) : Int) := by cases a0 <;> simp [fcs_of.f, widthOf] at hof ⊢ <;> omega
  subst hr2
  have hm : fcs_More.f a0 ((widthOf a0 - 1 : Nat) : Int) l1 = some ((more (polyOf a0) (widthOf a0 - 1) (l1.map Int.toNat) : Nat) : Int) := by
    unfold fcs_More.f
    have := (width_le a0).2
    rw [if_pos ⟨hl, by omega, by omega⟩]
    have e : ((widthOf a0 - 1 : Nat) : Int).toNat % widthOf a0 = widthOf a0 - 1 := by cases a0 <;> decide
    rw [e]
  have hx : Go.bits .xor .u32 ((more (polyOf a0) (widthOf a0 - 1) (l1.map Int.toNat) : Nat) : Int) ((widthOf a0 - 1 : Nat) : Int) = ((sumN a0 (l1.map Int.toNat) : Nat) : Int) := by
    have h1 := more_lt a0 (widthOf a0 - 1) (by cases a0 <;> decide) _ (bytes_of hl)
    have h2 := (width_le a0).2
    rw [xor_u32 _ _ (by omega) (by omega)]; rfl
  have HOF := Lib.hid hof
  have HM := Lib.hid hm
  have HX := Lib.hid hx
  have HR := Aside0.mk hr1
  have HC := Aside0.mk hc1
  have HG := Aside0.mk hgF
  obtain ⟨mv, hmv⟩ : ∃ mv : Int, mv = ((more (polyOf a0) (widthOf a0 - 1) (l1.map Int.toNat) : Nat) : Int) := ⟨_, rfl⟩
  obtain ⟨sv, hsv⟩ : ∃ sv : Int, sv = ((widthOf a0 - 1 : Nat) : Int) := ⟨_, rfl⟩
  rw [← hmv, ← hsv] at hx hm
  rw [← hsv] at hof
  have HOF := Lib.hid hof
  have HM := Lib.hid hm
  have HX := Lib.hid hx
  clear hof hm hx hr1 hc1 hgF hl hmv hsv
  go_enter Tryd.func27, Tryd.ntmps27
  go_wp2_with fail
  refine (fcs_of.calls a0 r1 sv r3 r4 _ HG.out HOF.out).mono ?_
  rintro e w1 ⟨rfl, hb1⟩
  have HB1 := Aside0.mk hb1
  clear hb1
  go_wp2_with fail
  have hcell : (w1.alloc (.cells #[.int .u32 r1, .int .u32 sv, .int .u32 r3, .int .i64 r4] 80)).cell? ⟨w1.heap.size, 1, none⟩ = some (.int .u32 sv) := cell_of_row _ _ 1 _ 80 (0, 0) (heap_alloc_new w1 _)
  obtain ⟨W1, hW1⟩ : ∃ W1, W1 = w1.alloc (.cells #[.int .u32 r1, .int .u32 sv, .int .u32 r3, .int .i64 r4] 80) := ⟨_, rfl⟩
  have hbw : Below w.heap.size w W1 := by rw [hW1]; exact HB1.out.alloc HB1.out.size _
  rw [← hW1] at hcell ⊢
  have HBW := Aside0.mk hbw
  clear hW1 hbw
  go_region_held3 (fun W => W.cell? ⟨w1.heap.size, 1, none⟩ = some (.int .u32 sv))
    (first | exact hcell | exact pw_cell_below hb2 hcell)
    (first | (go_at_call 37; refine (fcs_More.calls a0 sv _ _ l1 mv _ (Kd.C_below HR.out (below_drew HBW.out)) HC.out (GF_below HG.out (below_drew HBW.out)) HM.out).mono ?_; rintro e w2 ⟨rfl, hb2⟩))
  go_wp2
  go_ret
  exact ⟨by rw [HX.out]; rfl, below_then (below_drew HBW.out) (below_drew HBW.out).size (by assumption)⟩

def marlinelaw02_speaks.f : Option Bool := some true
def nineBytes : List Int := [49, 50, 51, 52, 53, 54, 55, 56, 57]
theorem nine_narrow : fcs_Sum.f false nineBytes = some 36974 := by decide +kernel
theorem nine_wide : fcs_Sum.f true nineBytes = some 3421780262 := by decide +kernel

set_option maxHeartbeats 2000000 in
set_option maxRecDepth 100000 in
theorem marlinelaw02_speaks.calls (r : Bool) (w : World) (hgF : GF w) (h : marlinelaw02_speaks.f = some r) :
    Calls Tryd.prog 26 #[] w fun e w' => e = .returned (.bool r) ∧ Below w.heap.size w w' := by
  obtain rfl := Option.some.inj h
  clear h
  have HG := Aside0.mk hgF
  have HN := Lib.hid nine_narrow
  have HW := Lib.hid nine_wide
  clear hgF
  have kc := fun (w : World) (C : Array Value) (n c : Nat) => Lib.run_convert_bytes_const (P := Tryd.prog) w 35 5 C n c Tryd.underlying35 Tryd.underlying5
  go_enter Tryd.func26, Tryd.ntmps26
  go_wp2_with fail
  have hC : Aside0 (Kd.C (Kd.int .u8) (w.alloc (.cells #[.int .u8 49, .int .u8 50, .int .u8 51, .int .u8 52, .int .u8 53, .int .u8 54, .int .u8 55, .int .u8 56, .int .u8 57] 5 (9, 10))) (some ⟨w.heap.size, 0, none⟩) nineBytes.length nineBytes) :=
    ⟨Kd.C_of_reads (d := (0 : Int)) (h1 := fun _ => rfl) ⟨rfl, by decide, fun _ => ⟨_, rfl, fun j hj => by
      rw [add_plain, cell_of_row _ _ j _ 5 (9, 10) (heap_alloc_new w _)]
      match j, hj with
      | 0, _ => rfl
      | 1, _ => rfl
      | 2, _ => rfl
      | 3, _ => rfl
      | 4, _ => rfl
      | 5, _ => rfl
      | 6, _ => rfl
      | 7, _ => rfl
      | 8, _ => rfl
      | j + 9, hj => exact absurd hj (by simp [nineBytes])⟩⟩⟩
  refine (fcs_Sum.calls false _ _ nineBytes 36974 _ hC.out (by decide) (GF_alloc HG.out _) HN.out).mono ?_
  rintro e w1 ⟨rfl, hb1⟩
  have HB1 := Aside0.mk hb1
  clear hb1
  go_wp2_with fail
  refine (fcs_Sum.calls true _ _ nineBytes 3421780262 _ (Kd.C_below hC.out HB1.out) (by decide) (GF_below (GF_alloc HG.out _) HB1.out) HW.out).mono ?_
  rintro e w2 ⟨rfl, hb2⟩
  go_wp2
  go_ret
  exact ⟨rfl, below_then (below_then ((Below.refl _ _).alloc (Nat.le_refl _) _) (by simp) HB1.out) (by have := HB1.out.size; simp at this; omega) hb2⟩
end Go.Proofs.YtggpejjfgphihaaDoor.Given
