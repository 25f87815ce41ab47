/- The table of a method of package fcs: 256 cells, cell i is the register behind eight steps from i. -/
import Derived.Test.YtggpejjfgphihaaDoorGOf
import Derived.Test.YtggpejjfgphihaaDoorBits
import Derived.Deep.WholeRow
import Derived.Deep.LoopGhost
import Derived.Laws.ResultCell
import Derived.Lib.Hide
namespace Go.Proofs.YtggpejjfgphihaaDoor.Given
open Go.RowKit Go.Proofs.YtggpejjfgphihaaDoorW.PrintWords
open Go.Proofs.YtggpejjfgphihaaDoor.Crc (it st)

/-- the table as far as its first k cells are filled -/
def tabCells (p k : Nat) : Array Value := Array.ofFn (n := 256) fun i => Value.int .u32 (if i.val < k then ((it p 8 i.val : Nat) : Int) else 0)
theorem tabCells_size (p k : Nat) : (tabCells p k).size = 256 := by simp [tabCells]
theorem tabCells_one (p k : Nat) : (tabCells p k).all (·.oneCell') = true := by
  rw [Array.all_eq_true]
  intro i h
  simp [tabCells, Value.oneCell']
theorem tabCells_zero (p : Nat) : tabCells p 0 = Array.replicate 256 (.int .u32 0) := by
  apply Array.ext
  · simp [tabCells]
  · intro i h1 h2
    simp [tabCells]
theorem tabCells_set (p k : Nat) (_hk : k < 256) : (tabCells p k).setIfInBounds k (.int .u32 ((it p 8 k : Nat) : Int)) = tabCells p (k + 1) := by
  apply Array.ext
  · simp [tabCells]
  · intro i h1 h2
    rw [Array.getElem_setIfInBounds (by simpa using h1)]
    by_cases h : k = i
    · subst h
      simp [tabCells]
    · have : (i < k + 1) ↔ (i < k) := by omega
      simp [tabCells, h, this]
theorem tabCells_at (p k i : Nat) (hk : i < k) (hi : i < 256) : (tabCells p k)[i]? = some (.int .u32 ((it p 8 i : Nat) : Int)) := by
  simp [tabCells, hi, hk]
theorem zero94 : (Tryd.prog.info? 94).map (fun i => (i.zero, i.size)) = some (some (.agg (Array.replicate 256 (.int .u32 0))), 256) := by kernel_rfl
theorem hv94 : ∀ w, (zeroValue 94).run Tryd.prog w = .ok (.agg (Array.replicate 256 (.int .u32 0))) w := (zero_of_info zero94).1
theorem hi94 : (Tryd.prog.info? 94).map (·.size) = some 256 := (zero_of_info zero94).2

theorem st_lt32 (p x : Nat) (hp : p < 4294967296) (hx : x < 4294967296) : st p x < 4294967296 := Crc.st_lt (w := 32) hp hx

set_option maxHeartbeats 2000000 in
set_option maxRecDepth 100000 in
theorem table_calls (p : Nat) (hp : p < 4294967296) (b c : Value) (d : Value) (w : World) :
    Calls Tryd.prog 68 #[.agg #[.int .u32 p, b, c, d]] w fun e w' => e = .returned (.agg (tabCells p 256)) ∧ Below w.heap.size w w' := by
  have hv := hv94
  go_enter Tryd.func68, Tryd.ntmps68
  go_wp2
  rw [← tabCells_zero p]
  have HP := Lib.hid hp
  clear hp hv
  go_loopg [5] 256 (fun g s5 wx => ∃ i : Nat, i + g = 256 ∧ s5 = .int .i64 i ∧ wx = (w.alloc (.cells #[.int .u32 p, b, c, d] 80)).alloc (.cells (tabCells p i) 94))
  case atStart => exact ⟨0, by omega, rfl, rfl⟩
  case round =>
    obtain ⟨i, hig, rfl, rfl⟩ := hrel
    cases gk with
    | zero =>
      obtain rfl : i = 256 := by omega
      have hg := heap_alloc2_new w (.cells #[.int .u32 p, b, c, d] 80) (.cells (tabCells p 256) 94)
      have hsz : (Tryd.prog.info? 94).map (·.size) = some (tabCells p 256).size := by rw [tabCells_size]; exact hi94
      have hrow : ((w.alloc (.cells #[.int .u32 p, b, c, d] 80)).alloc (.cells (tabCells p 256) 94)).setRow (w.heap.size + 1) (tabCells p 256) = (w.alloc (.cells #[.int .u32 p, b, c, d] 80)).alloc (.cells (tabCells p 256) 94) := by
        have := World.setRow_alloc_new (w.alloc (.cells #[.int .u32 p, b, c, d] 80)) (tabCells p 256) (tabCells p 256) 94
        simpa using this
      go_wp2_with (first
        | (with_reducible refine wpList_load_row rfl 94 (.tmp 2) rfl (w.heap.size + 1) rfl 94 (tabCells p 256) (0, 0) _ hg Tryd.underlying94 rfl hsz ?_)
        | (with_reducible refine wpList_store_row rfl 94 (.tmp 2) (.tmp 25) rfl (w.heap.size + 1) (tabCells p 256) rfl rfl 94 (tabCells p 256) hg hsz rfl (tabCells_one p 256) ?_; rw [hrow]))
      (try simp only [Exit.inBlock, Exit.then])
      refine bodyPost_ret (v := .agg (tabCells p 256)) ?_ rfl ⟨rfl, by go_grown⟩
      exact results_cell_row rfl _ _ (w.heap.size + 1) 94 (tabCells p 256) (0, 0) _ rfl hg Tryd.underlying94 rfl hsz
    | succ g =>
      have hi : i < 256 := by omega
      have hiz : (i : Int) < 256 := by omega
      go_wp2
      go_loop [4, 10] (fun s4 s10 => ∃ j x : Nat, j ≤ 8 ∧ x < 4294967296 ∧ Aside0 (it p 8 i = it p (8 - j) x) ∧ s4 = .int .u32 x ∧ s10 = .int .i64 j) (fun _ s10 => 8 - (intOf s10).toNat)
      case atStart => exact ⟨0, i, by omega, by omega, ⟨rfl⟩, rfl, rfl⟩
      case round =>
        obtain ⟨j, x, hj, hx, HX, rfl, rfl⟩ := hrel
        by_cases hj8 : j < 8
        · have hjz : (j : Int) < 8 := by omega
          go_wp2
          go_round
          case measure => simp [intOf]; omega
          case rel =>
            refine ⟨j + 1, st p x, by omega, st_lt32 p x HP.out hx, ⟨?_⟩, ?_, by go_num⟩
            · rw [HX.out, show 8 - j = (8 - (j + 1)) + 1 from by omega]; rfl
            · rw [← st_bits p x HP.out hx]
        · obtain rfl : j = 8 := by omega
          have hcell := tabCells_at p
          have HX2 : Aside0 (it p 8 i = x) := ⟨HX.out⟩
          clear HX
          have hlen : (tabCells p i).size = 256 := tabCells_size p i
          obtain ⟨old, hold⟩ : ∃ old, (tabCells p i)[i]? = some old := ⟨_, Array.getElem?_eq_getElem (by rw [hlen]; exact hi)⟩
          clear hcell
          go_wp2
          go_roundg g
          case measure => omega
          case rel => exact ⟨i + 1, by omega, by go_num, by rw [← tabCells_set p i hi, HX2.out]⟩
end Go.Proofs.YtggpejjfgphihaaDoor.Given
