/- fcs.More: the register behind octets. -/
import Derived.Test.YtggpejjfgphihaaDoorGTab
namespace Go.Proofs.YtggpejjfgphihaaDoor.Given
open Go.RowKit Go.Proofs.YtggpejjfgphihaaDoorW.PrintWords
set_option linter.unusedVariables false
open Go.Proofs.YtggpejjfgphihaaDoor.Crc (it st more)

/-- a whole number of 8 bits -/
def okByte (x : Int) : Bool := decide (0 ≤ x) && decide (x < 256)
def polyOf (a0 : Bool) : Nat := if a0 = true then 3988292384 else 33800
def widthOf (a0 : Bool) : Nat := if a0 = true then 4294967296 else 65536
def fcs_More.f (a0 : Bool) (a1 : Int) (l2 : List Int) : Option Int :=
  if l2.all okByte = true ∧ 0 ≤ a1 ∧ a1 < 4294967296 then some ((more (polyOf a0) (a1.toNat % widthOf a0) (l2.map Int.toNat) : Nat) : Int) else none

theorem poly_lt (a0 : Bool) : polyOf a0 < 4294967296 := by cases a0 <;> decide
theorem width_le (a0 : Bool) : 0 < widthOf a0 ∧ widthOf a0 ≤ 4294967296 := by cases a0 <;> decide
theorem and_start (a0 : Bool) (n : Nat) (h : (n : Int) < 4294967296) : Go.bits .and .u32 (n : Int) ((widthOf a0 : Int) - 1) = ((n % widthOf a0 : Nat) : Int) := by
  have h2 : n < 2 ^ 32 := by omega
  have key : ∀ m : Nat, m ≤ 32 → Go.bits .and .u32 (n : Int) ((2 ^ m : Nat) - 1 : Int) = ((n % 2 ^ m : Nat) : Int) := by
    intro m hm
    have hp : 0 < 2 ^ m := Nat.two_pow_pos m
    have hle : 2 ^ m ≤ 2 ^ 32 := Nat.pow_le_pow_right (by decide) hm
    have e : (((2 ^ m : Nat) : Int) - 1) = ((2 ^ m - 1 : Nat) : Int) := by omega
    rw [e, and_u32 n (2 ^ m - 1) h2 (by omega), Nat.and_two_pow_sub_one_eq_mod]
  cases a0
  · exact key 16 (by decide)
  · exact key 32 (by decide)
theorem okByte_rd {l : List Int} (h : l.all okByte = true) (i : Nat) (hi : i < l.length) : ∃ c : Nat, c < 256 ∧ rd l (i : Int) = (c : Int) ∧ (l.map Int.toNat).take (i + 1) = (l.map Int.toNat).take i ++ [c] := by
  have h1 := List.all_eq_true.1 h (l[i]) (List.getElem_mem hi)
  simp [okByte] at h1
  refine ⟨(l[i]).toNat, by omega, ?_, ?_⟩
  · simp [rd, hi]; omega
  · rw [List.take_succ_eq_append_getElem (by simpa using hi)]; simp
theorem step_table (p reg c : Nat) (hp : p < 4294967296) (hr : reg < 4294967296) (hc : c < 256) :
    Go.bits .xor .u32 ((reg : Int) / 256) ((it p 8 (reg % 256 ^^^ c) : Nat) : Int) = ((it p 8 (reg ^^^ c) : Nat) : Int) ∧ it p 8 (reg ^^^ c) < 4294967296 := by
  have hx : reg ^^^ c < 2 ^ 32 := Nat.xor_lt_two_pow (by omega) (by omega)
  have e1 : (reg ^^^ c) / 256 = reg / 256 := by
    have h := Nat.shiftRight_xor_distrib (a := reg) (b := c) (i := 8)
    simp only [Nat.shiftRight_eq_div_pow] at h
    have h2 : c / 2 ^ 8 = 0 := by omega
    rw [h2, Nat.xor_zero] at h
    exact h
  have e2 : (reg ^^^ c) % 256 = reg % 256 ^^^ c := by
    have h := Nat.xor_mod_two_pow (a := reg) (b := c) (n := 8)
    have h2 : c % 2 ^ 8 = c := by omega
    rw [h2] at h
    exact h
  have hlt : it p 8 (reg % 256 ^^^ c) < 2 ^ 32 := Crc.it_lt 8 hp (Nat.lt_of_lt_of_le (Nat.xor_lt_two_pow (n := 8) (by omega) (by omega)) (by decide))
  refine ⟨?_, Crc.it_lt (w := 32) 8 hp hx⟩
  have e3 : (reg : Int) / 256 = ((reg / 256 : Nat) : Int) := by omega
  rw [e3, xor_u32 _ _ (by omega) hlt, Crc.it8_split p (reg ^^^ c), e1, e2]

theorem old_cell {w1 w2 : World} {c : Array Value} {t : TypeId} (hb : Below (w1.alloc (.cells c t)).heap.size (w1.alloc (.cells c t)) w2) (j : Nat) : w2.cell? ⟨w1.heap.size, j, none⟩ = c[j]? := by
  rw [hb.cell (p := ⟨w1.heap.size, j, none⟩) (by simp)]
  exact cell_of_row _ _ j c t (0, 0) (heap_alloc_new w1 _)
theorem old_below {w w1 w2 : World} {o : Obj} (h1 : Below w.heap.size w w1) (hb : Below (w1.alloc o).heap.size (w1.alloc o) w2) : Below w.heap.size w w2 ∧ w1.heap.size < w2.heap.size := by
  have := h1.size
  refine ⟨below_then (h1.alloc this o) (by simp; omega) hb, ?_⟩
  have := hb.size
  simp at this
  omega
theorem made_row (w2 : World) (a b : Array Value) (t : TypeId) : (w2.alloc (.cells a t)).setRow w2.heap.size b = w2.alloc (.cells b t) := World.setRow_alloc_new w2 a b t

set_option maxHeartbeats 2000000 in
set_option maxRecDepth 100000 in
theorem fcs_More.calls (a0 : Bool) (a1 : Int) (A2 : Option Addr) (c2 : Nat) (l2 : List Int) (r : Int) (w : World) (hr2 : Kd.C (Kd.int .u8) w A2 l2.length l2) (hc2 : l2.length ≤ c2) (hgF : GF w) (h : fcs_More.f a0 a1 l2 = some r) :
    Calls Tryd.prog 37 #[.bool a0, .int .u32 a1, .slice A2 l2.length c2] w fun e w' => e = .returned (.int .u32 r) ∧ Below w.heap.size w w' := by
  unfold fcs_More.f at h
  split at h
  case isFalse => cases h
  rename_i hwf
  obtain ⟨hl, ha0, ha1⟩ := hwf
  obtain rfl := Option.some.inj h
  clear h
  obtain ⟨n, rfl⟩ := Int.eq_ofNat_of_zero_le ha0
  clear ha0
  obtain ⟨r1, r2, r3, r4, hof⟩ : ∃ r1 r2 r3 r4, fcs_of.f a0 = some (r1, r2, r3, r4) := by cases a0 <;> exact ⟨_, _, _, _, rfl⟩
  have hof' := hof
  obtain ⟨rfl, rfl⟩ : r1 = (polyOf a0 : Int) ∧ r2 = (widthOf a0 : Int) - 1 := by
    cases a0 <;> simp [fcs_of.f, polyOf, widthOf] at hof ⊢ <;> omega
  have HOF := Lib.hid hof
  have HR := Aside0.mk hr2
  have HL := Lib.hid hl
  have HG := Aside0.mk hgF
  clear hof hof' hr2 hl hgF
  go_enter Tryd.func37, Tryd.ntmps37
  go_wp2_with fail
  refine (fcs_of.calls a0 _ _ _ _ _ HG.out HOF.out).mono ?_
  rintro e w1 ⟨rfl, hb1⟩
  have HB1 := Aside0.mk hb1
  clear hb1
  go_wp2_with fail
  refine (table_calls (polyOf a0) (poly_lt a0) _ _ _ _).mono ?_
  rintro e w2 ⟨rfl, hb2⟩
  have hst := old_cell hb2 1
  obtain ⟨hbw, hlt⟩ := old_below HB1.out hb2
  have HBW := Aside0.mk hbw
  clear hb2 hbw
  have hst : w2.cell? ⟨w1.heap.size, 1, none⟩ = some (.int .u32 ((widthOf a0 : Int) - 1)) := hst
  have hg := heap_alloc_new w2 (.cells (Array.replicate 256 (.int .u32 0)) 94)
  have hsz : (Tryd.prog.info? 94).map (·.size) = some (tabCells (polyOf a0) 256).size := by rw [tabCells_size]; exact hi94
  have hrow := made_row w2 (Array.replicate 256 (.int .u32 0)) (tabCells (polyOf a0) 256) 94
  have hv := hv94
  go_wp2_with (first
        | (with_reducible refine wpList_store_row rfl 94 (.tmp 8) (.tmp 14) rfl w2.heap.size (tabCells (polyOf a0) 256) rfl rfl 94 (Array.replicate 256 (.int .u32 0)) hg hsz (by rw [tabCells_size, Array.size_replicate]) (tabCells_one _ 256) ?_; rw [hrow]))
  rw [and_start a0 n ha1]
  clear hst hg hsz hrow hv
  have HC := Aside0.mk (Kd.C_below (Kd.C_below HR.out HBW.out) (below_alloc (Below.refl _ _) (.cells (tabCells (polyOf a0) 256) 94)))
  have HT : Aside0 (∀ d : Nat, d < 256 → (w2.alloc (.cells (tabCells (polyOf a0) 256) 94)).cell? ⟨w2.heap.size, d, none⟩ = some (.int .u32 ((it (polyOf a0) 8 d : Nat) : Int))) :=
    ⟨fun d hd => by rw [cell_of_row _ _ d _ 94 (0, 0) (heap_alloc_new w2 _)]; exact tabCells_at _ _ _ hd hd⟩
  have hmax : l2.length ≤ 9223372036854775807 := HR.out.2.1
  have hp := poly_lt a0
  have HP := Lib.hid hp
  have hr0 : n % widthOf a0 < 4294967296 := Nat.lt_of_lt_of_le (Nat.mod_lt _ (width_le a0).1) (width_le a0).2
  have HR0 := Lib.hid hr0
  clear hp hr0
  go_loop [1, 21] (fun s1 s21 => ∃ i reg : Nat, i ≤ l2.length ∧ reg < 4294967296 ∧ s21 = .int .i64 i ∧ s1 = .int .u32 reg ∧ Aside0 (reg = more (polyOf a0) (n % widthOf a0) ((l2.map Int.toNat).take i))) (fun _ s21 => l2.length - (intOf s21).toNat)
  case atStart => exact ⟨0, _, by omega, HR0.out, rfl, rfl, ⟨by simp [more]⟩⟩
  case round =>
    obtain ⟨i, reg, hi, hreg, rfl, rfl, HE⟩ := hrel
    by_cases hlt : i < l2.length
    · obtain ⟨c, hc, hrd, htk⟩ := okByte_rd HL.out i hlt
      obtain ⟨ad, had, hcell⟩ := Kd.at_int HC.out (i : Int) (by omega) (by omega)
      rw [hrd] at hcell
      obtain ⟨hstep, hlt2⟩ := step_table (polyOf a0) reg c HP.out hreg hc
      have hd : reg % 256 ^^^ c < 256 := Nat.xor_lt_two_pow (n := 8) (by omega) (by omega)
      obtain ⟨d, hdd⟩ : ∃ d : Nat, d = reg % 256 ^^^ c := ⟨_, rfl⟩
      have hx : Go.bits .xor .u8 ((reg : Int) % 256) (c : Int) = (d : Int) := by
        rw [hdd, ← xor_u8 _ _ (by omega) (by omega)]; rfl
      rw [← hdd] at hstep hd
      have ht := HT.out d hd
      have HS := Lib.hid hstep
      have HK := Lib.hid htk
      have HD := Lib.hid hdd
      clear hstep htk hrd hdd
      cases had
      simp only [Int.toNat_natCast] at hcell
      have hd2 : (d : Int) < 256 := by omega
      go_wp2
      go_round
      case measure => simp [intOf]; omega
      case rel => exact ⟨i + 1, it (polyOf a0) 8 (reg ^^^ c), by omega, hlt2, by go_num, by rw [HS.out], ⟨by rw [HK.out, Crc.more_append, ← HE.out]; rfl⟩⟩
    · obtain rfl : i = l2.length := by omega
      go_wp2
      go_ret
      have HE2 := HE.out
      rw [List.take_of_length_le (by simp)] at HE2
      exact ⟨by rw [HE2]; simp, HBW.out.alloc HBW.out.size _⟩
end Go.Proofs.YtggpejjfgphihaaDoor.Given
