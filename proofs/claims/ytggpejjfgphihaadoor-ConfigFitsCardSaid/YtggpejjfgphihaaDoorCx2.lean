-- Printed by the session's own turn of the kit's print program (wip/pprint.py): not trusted, Lean checks it.
import Derived.Test.YtggpejjfgphihaaDoorCx0
import Derived.Test.YtggpejjfgphihaaDoorCx1
namespace Go.Proofs.YtggpejjfgphihaaDoor.C
open Go.Proofs.YtggpejjfgphihaaDoor.Given Go.RowKit Go.Proofs.YtggpejjfgphihaaDoorW.PrintWords Go.Proofs.YtggpejjfgphihaaDoorW.PrintLast Go.Proofs.YtggpejjfgphihaaDoorW.PrintMore
attribute [local go_sem] max2_int min2_int max_two min_two max_three min_three max_four min_four   -- for this text's walks alone
set_option linter.unusedVariables false
set_option linter.unusedSimpArgs false

/-! ### config_Fits: function 22 -/
mutual
def config_Fits.j0 : Nat → Bool → Bool → Bool → Bool → Bool → Int → Int → Int → Bool → Bool → Bool → Bool → Int → Int → Int → Option (Bool)
  | 0, _, _, _, _, _, _, _, _, _, _, _, _, _, _, _ => none
  | k + 1, x5, x120000, x120001, x120002, x120003, x120004, x120005, x120006, x121000, x121001, x121002, x121003, x121004, x121005, x121006 => if x5 = true then (some false) else (if x120002 = true then (if x121002 = true then (if x120003 = true then (config_Fits.j1 k (!x121003) x120000 x120001 x120002 x120003 x120004 x120005 x120006 x121000 x121001 x121002 x121003 x121004 x121005 x121006) else (config_Fits.j1 k false x120000 x120001 x120002 x120003 x120004 x120005 x120006 x121000 x121001 x121002 x121003 x121004 x121005 x121006)) else (config_Fits.j1 k true x120000 x120001 x120002 x120003 x120004 x120005 x120006 x121000 x121001 x121002 x121003 x121004 x121005 x121006)) else (if x120003 = true then (config_Fits.j1 k (!x121003) x120000 x120001 x120002 x120003 x120004 x120005 x120006 x121000 x121001 x121002 x121003 x121004 x121005 x121006) else (config_Fits.j1 k false x120000 x120001 x120002 x120003 x120004 x120005 x120006 x121000 x121001 x121002 x121003 x121004 x121005 x121006)))
def config_Fits.j1 : Nat → Bool → Bool → Bool → Bool → Bool → Int → Int → Int → Bool → Bool → Bool → Bool → Int → Int → Int → Option (Bool)
  | 0, _, _, _, _, _, _, _, _, _, _, _, _, _, _, _ => none
  | k + 1, x18, x120000, x120001, x120002, x120003, x120004, x120005, x120006, x121000, x121001, x121002, x121003, x121004, x121005, x121006 => if x18 = true then (some false) else (if x120000 = true then (config_Fits.j2 k false x120000 x120001 x120002 x120003 x120004 x120005 x120006 x121000 x121001 x121002 x121003 x121004 x121005 x121006) else ((accm_Within.f x121005 x120004).bind fun t121 => (config_Fits.j2 k (!t121) x120000 x120001 x120002 x120003 x120004 x120005 x120006 x121000 x121001 x121002 x121003 x121004 x121005 x121006)))
def config_Fits.j2 : Nat → Bool → Bool → Bool → Bool → Bool → Int → Int → Int → Bool → Bool → Bool → Bool → Int → Int → Int → Option (Bool)
  | 0, _, _, _, _, _, _, _, _, _, _, _, _, _, _, _ => none
  | k + 1, x35, x120000, x120001, x120002, x120003, x120004, x120005, x120006, x121000, x121001, x121002, x121003, x121004, x121005, x121006 => if x35 = true then (some false) else (if x120006 > x121006 then (some false) else (some true))
end
def config_Fits.f (k : Nat) (a0_0 : Bool) (a0_1 : Bool) (a0_2 : Bool) (a0_3 : Bool) (a0_4 : Int) (a0_5 : Int) (a0_6 : Int) (a1_0 : Bool) (a1_1 : Bool) (a1_2 : Bool) (a1_3 : Bool) (a1_4 : Int) (a1_5 : Int) (a1_6 : Int) : Option (Bool) := if (a0_0 != a1_0) = true then (config_Fits.j0 k true a0_0 a0_1 a0_2 a0_3 a0_4 a0_5 a0_6 a1_0 a1_1 a1_2 a1_3 a1_4 a1_5 a1_6) else (config_Fits.j0 k (a0_1 != a1_1) a0_0 a0_1 a0_2 a0_3 a0_4 a0_5 a0_6 a1_0 a1_1 a1_2 a1_3 a1_4 a1_5 a1_6)
theorem config_Fits.mono_l : ∀ k, (∀ y0 y1 y2 y3 y4 y5 y6 y7 y8 y9 y10 y11 y12 y13 y14, LeO (config_Fits.j0 k y0 y1 y2 y3 y4 y5 y6 y7 y8 y9 y10 y11 y12 y13 y14) (config_Fits.j0 (k + 1) y0 y1 y2 y3 y4 y5 y6 y7 y8 y9 y10 y11 y12 y13 y14)) ∧ (∀ y0 y1 y2 y3 y4 y5 y6 y7 y8 y9 y10 y11 y12 y13 y14, LeO (config_Fits.j1 k y0 y1 y2 y3 y4 y5 y6 y7 y8 y9 y10 y11 y12 y13 y14) (config_Fits.j1 (k + 1) y0 y1 y2 y3 y4 y5 y6 y7 y8 y9 y10 y11 y12 y13 y14)) ∧ (∀ y0 y1 y2 y3 y4 y5 y6 y7 y8 y9 y10 y11 y12 y13 y14, LeO (config_Fits.j2 k y0 y1 y2 y3 y4 y5 y6 y7 y8 y9 y10 y11 y12 y13 y14) (config_Fits.j2 (k + 1) y0 y1 y2 y3 y4 y5 y6 y7 y8 y9 y10 y11 y12 y13 y14))
  | 0 => ⟨fun _ _ _ _ _ _ _ _ _ _ _ _ _ _ _ r h => by simp [config_Fits.j0] at h, fun _ _ _ _ _ _ _ _ _ _ _ _ _ _ _ r h => by simp [config_Fits.j1] at h, fun _ _ _ _ _ _ _ _ _ _ _ _ _ _ _ r h => by simp [config_Fits.j2] at h⟩
  | k + 1 => by
    obtain ⟨ih0, ih1, ih2⟩ := config_Fits.mono_l k
    refine ⟨?_, ?_, ?_⟩
    · intro y0 y1 y2 y3 y4 y5 y6 y7 y8 y9 y10 y11 y12 y13 y14
      unfold config_Fits.j0
      repeat' first
      | (with_reducible exact ih0 _ _ _ _ _ _ _ _ _ _ _ _ _ _ _)
      | (with_reducible exact ih1 _ _ _ _ _ _ _ _ _ _ _ _ _ _ _)
      | (with_reducible exact ih2 _ _ _ _ _ _ _ _ _ _ _ _ _ _ _)
      | (with_reducible exact LeO.refl _)
      | (with_reducible exact LeO.none _)
      | (with_reducible refine LeO.ite ?_ ?_)
      | (with_reducible refine LeO.bind ?_ (fun _ => ?_))
      | exact ih0 _ _ _ _ _ _ _ _ _ _ _ _ _ _ _
      | exact ih1 _ _ _ _ _ _ _ _ _ _ _ _ _ _ _
      | exact ih2 _ _ _ _ _ _ _ _ _ _ _ _ _ _ _
      | exact LeO.none _
      | refine LeO.ite ?_ ?_
      | refine LeO.bind ?_ (fun _ => ?_)
    · intro y0 y1 y2 y3 y4 y5 y6 y7 y8 y9 y10 y11 y12 y13 y14
      unfold config_Fits.j1
      repeat' first
      | (with_reducible exact ih0 _ _ _ _ _ _ _ _ _ _ _ _ _ _ _)
      | (with_reducible exact ih1 _ _ _ _ _ _ _ _ _ _ _ _ _ _ _)
      | (with_reducible exact ih2 _ _ _ _ _ _ _ _ _ _ _ _ _ _ _)
      | (with_reducible exact LeO.refl _)
      | (with_reducible exact LeO.none _)
      | (with_reducible refine LeO.ite ?_ ?_)
      | (with_reducible refine LeO.bind ?_ (fun _ => ?_))
      | exact ih0 _ _ _ _ _ _ _ _ _ _ _ _ _ _ _
      | exact ih1 _ _ _ _ _ _ _ _ _ _ _ _ _ _ _
      | exact ih2 _ _ _ _ _ _ _ _ _ _ _ _ _ _ _
      | exact LeO.none _
      | refine LeO.ite ?_ ?_
      | refine LeO.bind ?_ (fun _ => ?_)
    · intro y0 y1 y2 y3 y4 y5 y6 y7 y8 y9 y10 y11 y12 y13 y14
      unfold config_Fits.j2
      repeat' first
      | (with_reducible exact ih0 _ _ _ _ _ _ _ _ _ _ _ _ _ _ _)
      | (with_reducible exact ih1 _ _ _ _ _ _ _ _ _ _ _ _ _ _ _)
      | (with_reducible exact ih2 _ _ _ _ _ _ _ _ _ _ _ _ _ _ _)
      | (with_reducible exact LeO.refl _)
      | (with_reducible exact LeO.none _)
      | (with_reducible refine LeO.ite ?_ ?_)
      | (with_reducible refine LeO.bind ?_ (fun _ => ?_))
      | exact ih0 _ _ _ _ _ _ _ _ _ _ _ _ _ _ _
      | exact ih1 _ _ _ _ _ _ _ _ _ _ _ _ _ _ _
      | exact ih2 _ _ _ _ _ _ _ _ _ _ _ _ _ _ _
      | exact LeO.none _
      | refine LeO.ite ?_ ?_
      | refine LeO.bind ?_ (fun _ => ?_)
theorem config_Fits.mono : ∀ a0 a1 a2 a3 a4 a5 a6 a7 a8 a9 a10 a11 a12 a13 k, LeO (config_Fits.f k a0 a1 a2 a3 a4 a5 a6 a7 a8 a9 a10 a11 a12 a13) (config_Fits.f (k + 1) a0 a1 a2 a3 a4 a5 a6 a7 a8 a9 a10 a11 a12 a13) := by
  intro a0 a1 a2 a3 a4 a5 a6 a7 a8 a9 a10 a11 a12 a13 k
  obtain ⟨ih0, ih1, ih2⟩ := config_Fits.mono_l k
  unfold config_Fits.f
  repeat' first
      | (with_reducible exact ih0 _ _ _ _ _ _ _ _ _ _ _ _ _ _ _)
      | (with_reducible exact ih1 _ _ _ _ _ _ _ _ _ _ _ _ _ _ _)
      | (with_reducible exact ih2 _ _ _ _ _ _ _ _ _ _ _ _ _ _ _)
      | (with_reducible exact LeO.refl _)
      | (with_reducible exact LeO.none _)
      | (with_reducible refine LeO.ite ?_ ?_)
      | (with_reducible refine LeO.bind ?_ (fun _ => ?_))
      | exact ih0 _ _ _ _ _ _ _ _ _ _ _ _ _ _ _
      | exact ih1 _ _ _ _ _ _ _ _ _ _ _ _ _ _ _
      | exact ih2 _ _ _ _ _ _ _ _ _ _ _ _ _ _ _
      | exact LeO.none _
      | refine LeO.ite ?_ ?_
      | refine LeO.bind ?_ (fun _ => ?_)
set_option maxHeartbeats 8000000 in
set_option maxRecDepth 100000 in
theorem config_Fits.calls (k : Nat) (a0_0 : Bool) (a0_1 : Bool) (a0_2 : Bool) (a0_3 : Bool) (a0_4 : Int) (a0_5 : Int) (a0_6 : Int) (a1_0 : Bool) (a1_1 : Bool) (a1_2 : Bool) (a1_3 : Bool) (a1_4 : Int) (a1_5 : Int) (a1_6 : Int) (r : Bool) (w : World) (h : config_Fits.f k a0_0 a0_1 a0_2 a0_3 a0_4 a0_5 a0_6 a1_0 a1_1 a1_2 a1_3 a1_4 a1_5 a1_6 = some r) :
    Calls Tryd.prog 22 #[.agg #[.bool a0_0, .bool a0_1, .bool a0_2, .bool a0_3, .int .u32 a0_4, .int .u32 a0_5, .int .i64 a0_6], .agg #[.bool a1_0, .bool a1_1, .bool a1_2, .bool a1_3, .int .u32 a1_4, .int .u32 a1_5, .int .i64 a1_6]] w fun e w' => e = .returned (.bool r) ∧ Below w.heap.size w w' := by
  have hu26 := Tryd.underlying26
  have HB := Aside0.mk (Below.refl w.heap.size w)
  have H : (if (a0_0 != a1_0) = true then (config_Fits.j0 k true a0_0 a0_1 a0_2 a0_3 a0_4 a0_5 a0_6 a1_0 a1_1 a1_2 a1_3 a1_4 a1_5 a1_6) else (config_Fits.j0 k (a0_1 != a1_1) a0_0 a0_1 a0_2 a0_3 a0_4 a0_5 a0_6 a1_0 a1_1 a1_2 a1_3 a1_4 a1_5 a1_6)) = some r := h
  clear h
  have HC3 := Aside0.mk H
  clear H
  go_enter Tryd.func22, Tryd.ntmps22
  go_upto_region 2 with (first | ((with_reducible refine gate_dst (N := 2) rfl ?_); refine box_event ?hg (N := 2) ?hd (cs := #[.bool a0_0, .bool a0_1, .bool a0_2, .bool a0_3, .int .u32 a0_4, .int .u32 a0_5, .int .i64 a0_6]) (t := 26) ?hr ?_; (case hd => rfl); (case hg => rfl); (case hr => first | (go_simp; done) | (go_simp; rfl)); intro gb119 hg w4 hbox hb; have n0_ := Aside0.mk (below_step (by repeat (first | (with_reducible first | exact HB.out | apply below_alloc | apply pw_below_drewN | apply below_drew1) | exact HB.out)) hb); have n1_ := Aside0.mk (hbox); have n2_ := Aside0.mk ((by rw [hg]; exact (below_size (by repeat (first | (with_reducible first | exact HB.out | apply below_alloc | apply pw_below_drewN | apply below_drew1) | exact HB.out))) : w.heap.size ≤ gb119)); have n3_ := Aside0.mk ((by rw [hg]; exact (below_size (by repeat (first | (with_reducible first | exact HB.out | apply below_alloc | apply pw_below_drewN | apply below_drew1) | exact HB.out))) : w.heap.size ≤ gb119)); clear HB; have HB := n0_; have BK119 := n1_; have GW119 := n2_; have GE119 := n3_; clear n0_ n1_ n2_ n3_; clear hb hbox hg) | ((with_reducible refine gate_dst (N := 3) rfl ?_); refine box_event ?hg (N := 3) ?hd (cs := #[.bool a1_0, .bool a1_1, .bool a1_2, .bool a1_3, .int .u32 a1_4, .int .u32 a1_5, .int .i64 a1_6]) (t := 26) ?hr ?_; (case hd => rfl); (case hg => rfl); (case hr => first | (go_simp; done) | (go_simp; rfl)); intro gb120 hg w5 hbox hb; have n0_ := Aside0.mk (blk_below (g := gb119) (o := .cells #[.bool a0_0, .bool a0_1, .bool a0_2, .bool a0_3, .int .u32 a0_4, .int .u32 a0_5, .int .i64 a0_6] 26 (0, 0)) (by (with_reducible repeat (first | refine blk_drewN ?_ _ | refine blk_drew ?_ | refine blk_alloc ?_ _)); exact BK119.out) hb); have n1_ := Aside0.mk (below_step (by repeat (first | (with_reducible first | exact HB.out | apply below_alloc | apply pw_below_drewN | apply below_drew1 | refine below_set ?_ GE119.out) | exact HB.out)) hb); have n2_ := Aside0.mk (hbox); have n3_ := Aside0.mk ((by rw [hg]; exact (below_size (by repeat (first | (with_reducible first | exact HB.out | apply below_alloc | apply pw_below_drewN | apply below_drew1 | refine below_set ?_ GE119.out) | exact HB.out))) : w.heap.size ≤ gb120)); have n4_ := Aside0.mk ((by rw [hg]; exact (below_size (by repeat (first | (with_reducible first | exact HB.out | apply below_alloc | apply pw_below_drewN | apply below_drew1 | refine below_set ?_ GE119.out) | exact HB.out))) : w.heap.size ≤ gb120)); have n5_ := Aside0.mk ((by rw [hg]; exact Nat.ne_of_lt (blk_lt (g := gb119) (o := .cells #[.bool a0_0, .bool a0_1, .bool a0_2, .bool a0_3, .int .u32 a0_4, .int .u32 a0_5, .int .i64 a0_6] 26 (0, 0)) (by (with_reducible repeat (first | refine blk_drewN ?_ _ | refine blk_drew ?_ | refine blk_alloc ?_ _)); exact BK119.out)) : gb119 ≠ gb120)); have n6_ := Aside0.mk ((by rw [hg]; exact Nat.ne_of_gt (blk_lt (g := gb119) (o := .cells #[.bool a0_0, .bool a0_1, .bool a0_2, .bool a0_3, .int .u32 a0_4, .int .u32 a0_5, .int .i64 a0_6] 26 (0, 0)) (by (with_reducible repeat (first | refine blk_drewN ?_ _ | refine blk_drew ?_ | refine blk_alloc ?_ _)); exact BK119.out)) : gb120 ≠ gb119)); clear BK119; clear HB; have BK119 := n0_; have HB := n1_; have BK120 := n2_; have GW120 := n3_; have GE120 := n4_; have NB119_120 := n5_; have NB120_119 := n6_; clear n0_ n1_ n2_ n3_ n4_ n5_ n6_; clear hb hbox hg))
  (try simp only [Act.put, List.setIfInBounds_toArray, List.set_cons_zero, List.set_cons_succ])
  go_cut [5] (fun v5 wc => ∃ (kq : Nat) (x5_2 : Bool), v5 = .bool x5_2 ∧ Aside0 (config_Fits.j0 kq x5_2 a0_0 a0_1 a0_2 a0_3 a0_4 a0_5 a0_6 a1_0 a1_1 a1_2 a1_3 a1_4 a1_5 a1_6 = some r) ∧ Aside0 (kq ≤ k) ∧ Aside0 (wc.heap[gb119]? = some (.cells #[.bool a0_0, .bool a0_1, .bool a0_2, .bool a0_3, .int .u32 a0_4, .int .u32 a0_5, .int .i64 a0_6] 26 (0, 0))) ∧ Aside0 (wc.heap[gb120]? = some (.cells #[.bool a1_0, .bool a1_1, .bool a1_2, .bool a1_3, .int .u32 a1_4, .int .u32 a1_5, .int .i64 a1_6] 26 (0, 0))) ∧ Aside0 (Below w.heap.size w wc))
  case first =>
    have H := HC3.out
    clear HC3
    by_cases c6 : (a0_0 != a1_0) = true
    · rw [if_pos c6] at H
      have c6b0 : (a0_0 != a1_0) = true := c6
      (try (have c6b1 : decide (a0_0 = a1_0) = false := by simpa using c6))
      (try (have c6b2 : (a0_0 == a1_0) = false := by simpa using c6))
      (try (have c6b3 : ¬ (a0_0 = a1_0) := by simpa using c6))
      clear c6
      (first | rw [c6b0] | (simp only [i64_w, i32_w]; rw [c6b0]) | skip)
      have H' := Aside0.mk H
      clear H
      have hnb7 := NB119_120.out
      have hnc7 := NB120_119.out
      have hcz8_0 : w5.cell? ⟨gb119, 0, none⟩ = some (.bool a0_0) := (blk_cell BK119.out 0).trans rfl
      have hcz8_1 : w5.cell? ⟨gb119, 1, none⟩ = some (.bool a0_1) := (blk_cell BK119.out 1).trans rfl
      have hcz8_2 : w5.cell? ⟨gb119, 2, none⟩ = some (.bool a0_2) := (blk_cell BK119.out 2).trans rfl
      have hcz8_3 : w5.cell? ⟨gb119, 3, none⟩ = some (.bool a0_3) := (blk_cell BK119.out 3).trans rfl
      have hcz8_4 : w5.cell? ⟨gb119, 4, none⟩ = some (.int .u32 a0_4) := (blk_cell BK119.out 4).trans rfl
      have hcz8_5 : w5.cell? ⟨gb119, 5, none⟩ = some (.int .u32 a0_5) := (blk_cell BK119.out 5).trans rfl
      have hcz8_6 : w5.cell? ⟨gb119, 6, none⟩ = some (.int .i64 a0_6) := (blk_cell BK119.out 6).trans rfl
      have hfz8_0 := blk_frozen BK119.out 0
      have hfz8_1 := blk_frozen BK119.out 1
      have hfz8_2 := blk_frozen BK119.out 2
      have hfz8_3 := blk_frozen BK119.out 3
      have hfz8_4 := blk_frozen BK119.out 4
      have hfz8_5 := blk_frozen BK119.out 5
      have hfz8_6 := blk_frozen BK119.out 6
      have hcz9_0 : w5.cell? ⟨gb120, 0, none⟩ = some (.bool a1_0) := (blk_cell BK120.out 0).trans rfl
      have hcz9_1 : w5.cell? ⟨gb120, 1, none⟩ = some (.bool a1_1) := (blk_cell BK120.out 1).trans rfl
      have hcz9_2 : w5.cell? ⟨gb120, 2, none⟩ = some (.bool a1_2) := (blk_cell BK120.out 2).trans rfl
      have hcz9_3 : w5.cell? ⟨gb120, 3, none⟩ = some (.bool a1_3) := (blk_cell BK120.out 3).trans rfl
      have hcz9_4 : w5.cell? ⟨gb120, 4, none⟩ = some (.int .u32 a1_4) := (blk_cell BK120.out 4).trans rfl
      have hcz9_5 : w5.cell? ⟨gb120, 5, none⟩ = some (.int .u32 a1_5) := (blk_cell BK120.out 5).trans rfl
      have hcz9_6 : w5.cell? ⟨gb120, 6, none⟩ = some (.int .i64 a1_6) := (blk_cell BK120.out 6).trans rfl
      have hfz9_0 := blk_frozen BK120.out 0
      have hfz9_1 := blk_frozen BK120.out 1
      have hfz9_2 := blk_frozen BK120.out 2
      have hfz9_3 := blk_frozen BK120.out 3
      have hfz9_4 := blk_frozen BK120.out 4
      have hfz9_5 := blk_frozen BK120.out 5
      have hfz9_6 := blk_frozen BK120.out 6
      go_wp2
      go_meet
      case rel => exact ⟨_, (true), (by first | rfl | (simp; done) | (simp [*]; done)), H', ⟨by first | omega | exact Nat.le_refl _⟩, ⟨by (with_reducible repeat (first | refine blk_drewN ?_ _ | refine blk_drew ?_ | refine blk_alloc ?_ _)); exact BK119.out⟩, ⟨by (with_reducible repeat (first | refine blk_drewN ?_ _ | refine blk_drew ?_ | refine blk_alloc ?_ _)); exact BK120.out⟩, ⟨by repeat (first | (with_reducible first | exact HB.out | apply below_alloc | apply pw_below_drewN | apply below_drew1 | refine below_set ?_ GE119.out | refine below_set ?_ GE120.out) | exact HB.out)⟩⟩
    · rw [if_neg c6] at H
      have c6b0 : (a0_0 != a1_0) = false := by simpa using c6
      (try (have c6b1 : decide (a0_0 = a1_0) = true := by simpa using c6))
      (try (have c6b2 : (a0_0 == a1_0) = true := by simpa using c6))
      clear c6
      (first | rw [c6b0] | (simp only [i64_w, i32_w]; rw [c6b0]) | skip)
      have H' := Aside0.mk H
      clear H
      have hnb10 := NB119_120.out
      have hnc10 := NB120_119.out
      have hcz11_0 : w5.cell? ⟨gb119, 0, none⟩ = some (.bool a0_0) := (blk_cell BK119.out 0).trans rfl
      have hcz11_1 : w5.cell? ⟨gb119, 1, none⟩ = some (.bool a0_1) := (blk_cell BK119.out 1).trans rfl
      have hcz11_2 : w5.cell? ⟨gb119, 2, none⟩ = some (.bool a0_2) := (blk_cell BK119.out 2).trans rfl
      have hcz11_3 : w5.cell? ⟨gb119, 3, none⟩ = some (.bool a0_3) := (blk_cell BK119.out 3).trans rfl
      have hcz11_4 : w5.cell? ⟨gb119, 4, none⟩ = some (.int .u32 a0_4) := (blk_cell BK119.out 4).trans rfl
      have hcz11_5 : w5.cell? ⟨gb119, 5, none⟩ = some (.int .u32 a0_5) := (blk_cell BK119.out 5).trans rfl
      have hcz11_6 : w5.cell? ⟨gb119, 6, none⟩ = some (.int .i64 a0_6) := (blk_cell BK119.out 6).trans rfl
      have hfz11_0 := blk_frozen BK119.out 0
      have hfz11_1 := blk_frozen BK119.out 1
      have hfz11_2 := blk_frozen BK119.out 2
      have hfz11_3 := blk_frozen BK119.out 3
      have hfz11_4 := blk_frozen BK119.out 4
      have hfz11_5 := blk_frozen BK119.out 5
      have hfz11_6 := blk_frozen BK119.out 6
      have hcz12_0 : w5.cell? ⟨gb120, 0, none⟩ = some (.bool a1_0) := (blk_cell BK120.out 0).trans rfl
      have hcz12_1 : w5.cell? ⟨gb120, 1, none⟩ = some (.bool a1_1) := (blk_cell BK120.out 1).trans rfl
      have hcz12_2 : w5.cell? ⟨gb120, 2, none⟩ = some (.bool a1_2) := (blk_cell BK120.out 2).trans rfl
      have hcz12_3 : w5.cell? ⟨gb120, 3, none⟩ = some (.bool a1_3) := (blk_cell BK120.out 3).trans rfl
      have hcz12_4 : w5.cell? ⟨gb120, 4, none⟩ = some (.int .u32 a1_4) := (blk_cell BK120.out 4).trans rfl
      have hcz12_5 : w5.cell? ⟨gb120, 5, none⟩ = some (.int .u32 a1_5) := (blk_cell BK120.out 5).trans rfl
      have hcz12_6 : w5.cell? ⟨gb120, 6, none⟩ = some (.int .i64 a1_6) := (blk_cell BK120.out 6).trans rfl
      have hfz12_0 := blk_frozen BK120.out 0
      have hfz12_1 := blk_frozen BK120.out 1
      have hfz12_2 := blk_frozen BK120.out 2
      have hfz12_3 := blk_frozen BK120.out 3
      have hfz12_4 := blk_frozen BK120.out 4
      have hfz12_5 := blk_frozen BK120.out 5
      have hfz12_6 := blk_frozen BK120.out 6
      go_wp2
      go_meet
      case rel => exact ⟨_, ((a0_1 != a1_1)), (by first | rfl | (simp; done) | (simp [*]; done)), H', ⟨by first | omega | exact Nat.le_refl _⟩, ⟨by (with_reducible repeat (first | refine blk_drewN ?_ _ | refine blk_drew ?_ | refine blk_alloc ?_ _)); exact BK119.out⟩, ⟨by (with_reducible repeat (first | refine blk_drewN ?_ _ | refine blk_drew ?_ | refine blk_alloc ?_ _)); exact BK120.out⟩, ⟨by repeat (first | (with_reducible first | exact HB.out | apply below_alloc | apply pw_below_drewN | apply below_drew1 | refine below_set ?_ GE119.out | refine below_set ?_ GE120.out) | exact HB.out)⟩⟩
  case rest =>
    clear HC3
    try clear c1
    try clear c2
    try clear p2
    try clear c6
    try clear c6b0
    try clear c6b1
    try clear c6b2
    try clear c7
    try clear c10
    try clear hcz11_0
    try clear hcz11_1
    try clear hcz11_2
    try clear hcz11_3
    try clear hcz11_4
    try clear hcz11_5
    try clear hcz11_6
    try clear hcz12_0
    try clear hcz12_1
    try clear hcz12_2
    try clear hcz12_3
    try clear hcz12_4
    try clear hcz12_5
    try clear hcz12_6
    try clear hcz8_0
    try clear hcz8_1
    try clear hcz8_2
    try clear hcz8_3
    try clear hcz8_4
    try clear hcz8_5
    try clear hcz8_6
    try clear hcz9_0
    try clear hcz9_1
    try clear hcz9_2
    try clear hcz9_3
    try clear hcz9_4
    try clear hcz9_5
    try clear hcz9_6
    try clear hfz11_0
    try clear hfz11_1
    try clear hfz11_2
    try clear hfz11_3
    try clear hfz11_4
    try clear hfz11_5
    try clear hfz11_6
    try clear hfz12_0
    try clear hfz12_1
    try clear hfz12_2
    try clear hfz12_3
    try clear hfz12_4
    try clear hfz12_5
    try clear hfz12_6
    try clear hfz8_0
    try clear hfz8_1
    try clear hfz8_2
    try clear hfz8_3
    try clear hfz8_4
    try clear hfz8_5
    try clear hfz8_6
    try clear hfz9_0
    try clear hfz9_1
    try clear hfz9_2
    try clear hfz9_3
    try clear hfz9_4
    try clear hfz9_5
    try clear hfz9_6
    obtain ⟨kq, x5_2, rfl, HA, HJ2, BK119, BK120, HB⟩ := hcut
    cases kq with
    | zero => exact absurd HA.out (by simp [config_Fits.j0])
    | succ kj2 =>
      have H := HA.out
      clear HA
      simp only [config_Fits.j0] at H
      by_cases c13 : x5_2 = true
      · subst c13
        have H1 : (some false) = some r := by rw [if_pos rfl] at H; exact H
        clear H
        have H := H1
        clear H1
        obtain rfl := Option.some.inj H
        go_wp2
        go_ret
        exact ⟨by first | rfl | (simp [errW_none, errW_some] <;> rfl) | (simp [*, errW_none, errW_some] <;> rfl), by repeat (first | (with_reducible first | exact HB.out | apply below_alloc | apply pw_below_drewN | apply below_drew1 | refine below_set ?_ GE119.out | refine below_set ?_ GE120.out) | exact HB.out)⟩
      · replace c13 := Bool.eq_false_iff.mpr c13
        subst c13
        have H1 : (if a0_2 = true then (if a1_2 = true then (if a0_3 = true then (config_Fits.j1 kj2 (!a1_3) a0_0 a0_1 a0_2 a0_3 a0_4 a0_5 a0_6 a1_0 a1_1 a1_2 a1_3 a1_4 a1_5 a1_6) else (config_Fits.j1 kj2 false a0_0 a0_1 a0_2 a0_3 a0_4 a0_5 a0_6 a1_0 a1_1 a1_2 a1_3 a1_4 a1_5 a1_6)) else (config_Fits.j1 kj2 true a0_0 a0_1 a0_2 a0_3 a0_4 a0_5 a0_6 a1_0 a1_1 a1_2 a1_3 a1_4 a1_5 a1_6)) else (if a0_3 = true then (config_Fits.j1 kj2 (!a1_3) a0_0 a0_1 a0_2 a0_3 a0_4 a0_5 a0_6 a1_0 a1_1 a1_2 a1_3 a1_4 a1_5 a1_6) else (config_Fits.j1 kj2 false a0_0 a0_1 a0_2 a0_3 a0_4 a0_5 a0_6 a1_0 a1_1 a1_2 a1_3 a1_4 a1_5 a1_6))) = some r := by rw [if_neg (show ¬ (false = true) by decide)] at H; exact H
        clear H
        have H := H1
        clear H1
        have HC14 := Aside0.mk H
        clear H
        go_upto_region 3 with (fail)
        go_cut [18] (fun v18 wc => ∃ (kq : Nat) (x18_13 : Bool), v18 = .bool x18_13 ∧ Aside0 (config_Fits.j1 kq x18_13 a0_0 a0_1 a0_2 a0_3 a0_4 a0_5 a0_6 a1_0 a1_1 a1_2 a1_3 a1_4 a1_5 a1_6 = some r) ∧ Aside0 (kq ≤ kj2) ∧ Aside0 (wc.heap[gb119]? = some (.cells #[.bool a0_0, .bool a0_1, .bool a0_2, .bool a0_3, .int .u32 a0_4, .int .u32 a0_5, .int .i64 a0_6] 26 (0, 0))) ∧ Aside0 (wc.heap[gb120]? = some (.cells #[.bool a1_0, .bool a1_1, .bool a1_2, .bool a1_3, .int .u32 a1_4, .int .u32 a1_5, .int .i64 a1_6] 26 (0, 0))) ∧ Aside0 (Below w.heap.size w wc))
        case first =>
          have H := HC14.out
          clear HC14
          by_cases c15 : a0_2 = true
          · subst c15
            have H1 : (if a1_2 = true then (if a0_3 = true then (config_Fits.j1 kj2 (!a1_3) a0_0 a0_1 true a0_3 a0_4 a0_5 a0_6 a1_0 a1_1 a1_2 a1_3 a1_4 a1_5 a1_6) else (config_Fits.j1 kj2 false a0_0 a0_1 true a0_3 a0_4 a0_5 a0_6 a1_0 a1_1 a1_2 a1_3 a1_4 a1_5 a1_6)) else (config_Fits.j1 kj2 true a0_0 a0_1 true a0_3 a0_4 a0_5 a0_6 a1_0 a1_1 a1_2 a1_3 a1_4 a1_5 a1_6)) = some r := by rw [if_pos rfl] at H; exact H
            clear H
            have H := H1
            clear H1
            by_cases c16 : a1_2 = true
            · subst c16
              have H1 : (if a0_3 = true then (config_Fits.j1 kj2 (!a1_3) a0_0 a0_1 true a0_3 a0_4 a0_5 a0_6 a1_0 a1_1 true a1_3 a1_4 a1_5 a1_6) else (config_Fits.j1 kj2 false a0_0 a0_1 true a0_3 a0_4 a0_5 a0_6 a1_0 a1_1 true a1_3 a1_4 a1_5 a1_6)) = some r := by rw [if_pos rfl] at H; exact H
              clear H
              have H := H1
              clear H1
              by_cases c17 : a0_3 = true
              · subst c17
                have H1 : (config_Fits.j1 kj2 (!a1_3) a0_0 a0_1 true true a0_4 a0_5 a0_6 a1_0 a1_1 true a1_3 a1_4 a1_5 a1_6) = some r := by rw [if_pos rfl] at H; exact H
                clear H
                have H := H1
                clear H1
                have H' := Aside0.mk H
                clear H
                have hnb18 := NB119_120.out
                have hnc18 := NB120_119.out
                have hcz19_0 : wc.cell? ⟨gb119, 0, none⟩ = some (.bool a0_0) := (blk_cell BK119.out 0).trans rfl
                have hcz19_1 : wc.cell? ⟨gb119, 1, none⟩ = some (.bool a0_1) := (blk_cell BK119.out 1).trans rfl
                have hcz19_2 : wc.cell? ⟨gb119, 2, none⟩ = some (.bool true) := (blk_cell BK119.out 2).trans rfl
                have hcz19_3 : wc.cell? ⟨gb119, 3, none⟩ = some (.bool true) := (blk_cell BK119.out 3).trans rfl
                have hcz19_4 : wc.cell? ⟨gb119, 4, none⟩ = some (.int .u32 a0_4) := (blk_cell BK119.out 4).trans rfl
                have hcz19_5 : wc.cell? ⟨gb119, 5, none⟩ = some (.int .u32 a0_5) := (blk_cell BK119.out 5).trans rfl
                have hcz19_6 : wc.cell? ⟨gb119, 6, none⟩ = some (.int .i64 a0_6) := (blk_cell BK119.out 6).trans rfl
                have hfz19_0 := blk_frozen BK119.out 0
                have hfz19_1 := blk_frozen BK119.out 1
                have hfz19_2 := blk_frozen BK119.out 2
                have hfz19_3 := blk_frozen BK119.out 3
                have hfz19_4 := blk_frozen BK119.out 4
                have hfz19_5 := blk_frozen BK119.out 5
                have hfz19_6 := blk_frozen BK119.out 6
                have hcz20_0 : wc.cell? ⟨gb120, 0, none⟩ = some (.bool a1_0) := (blk_cell BK120.out 0).trans rfl
                have hcz20_1 : wc.cell? ⟨gb120, 1, none⟩ = some (.bool a1_1) := (blk_cell BK120.out 1).trans rfl
                have hcz20_2 : wc.cell? ⟨gb120, 2, none⟩ = some (.bool true) := (blk_cell BK120.out 2).trans rfl
                have hcz20_3 : wc.cell? ⟨gb120, 3, none⟩ = some (.bool a1_3) := (blk_cell BK120.out 3).trans rfl
                have hcz20_4 : wc.cell? ⟨gb120, 4, none⟩ = some (.int .u32 a1_4) := (blk_cell BK120.out 4).trans rfl
                have hcz20_5 : wc.cell? ⟨gb120, 5, none⟩ = some (.int .u32 a1_5) := (blk_cell BK120.out 5).trans rfl
                have hcz20_6 : wc.cell? ⟨gb120, 6, none⟩ = some (.int .i64 a1_6) := (blk_cell BK120.out 6).trans rfl
                have hfz20_0 := blk_frozen BK120.out 0
                have hfz20_1 := blk_frozen BK120.out 1
                have hfz20_2 := blk_frozen BK120.out 2
                have hfz20_3 := blk_frozen BK120.out 3
                have hfz20_4 := blk_frozen BK120.out 4
                have hfz20_5 := blk_frozen BK120.out 5
                have hfz20_6 := blk_frozen BK120.out 6
                go_wp2
                go_meet
                case rel => exact ⟨_, (!a1_3), (by first | rfl | (simp; done) | (simp [*]; done)), H', ⟨by have := HJ2.out; first | omega | exact Nat.le_refl _⟩, ⟨by (with_reducible repeat (first | refine blk_drewN ?_ _ | refine blk_drew ?_ | refine blk_alloc ?_ _)); exact BK119.out⟩, ⟨by (with_reducible repeat (first | refine blk_drewN ?_ _ | refine blk_drew ?_ | refine blk_alloc ?_ _)); exact BK120.out⟩, ⟨by repeat (first | (with_reducible first | exact HB.out | apply below_alloc | apply pw_below_drewN | apply below_drew1 | refine below_set ?_ GE119.out | refine below_set ?_ GE120.out) | exact HB.out)⟩⟩
              · replace c17 := Bool.eq_false_iff.mpr c17
                subst c17
                have H1 : (config_Fits.j1 kj2 false a0_0 a0_1 true false a0_4 a0_5 a0_6 a1_0 a1_1 true a1_3 a1_4 a1_5 a1_6) = some r := by rw [if_neg (show ¬ (false = true) by decide)] at H; exact H
                clear H
                have H := H1
                clear H1
                have H' := Aside0.mk H
                clear H
                have hnb21 := NB119_120.out
                have hnc21 := NB120_119.out
                have hcz22_0 : wc.cell? ⟨gb119, 0, none⟩ = some (.bool a0_0) := (blk_cell BK119.out 0).trans rfl
                have hcz22_1 : wc.cell? ⟨gb119, 1, none⟩ = some (.bool a0_1) := (blk_cell BK119.out 1).trans rfl
                have hcz22_2 : wc.cell? ⟨gb119, 2, none⟩ = some (.bool true) := (blk_cell BK119.out 2).trans rfl
                have hcz22_3 : wc.cell? ⟨gb119, 3, none⟩ = some (.bool false) := (blk_cell BK119.out 3).trans rfl
                have hcz22_4 : wc.cell? ⟨gb119, 4, none⟩ = some (.int .u32 a0_4) := (blk_cell BK119.out 4).trans rfl
                have hcz22_5 : wc.cell? ⟨gb119, 5, none⟩ = some (.int .u32 a0_5) := (blk_cell BK119.out 5).trans rfl
                have hcz22_6 : wc.cell? ⟨gb119, 6, none⟩ = some (.int .i64 a0_6) := (blk_cell BK119.out 6).trans rfl
                have hfz22_0 := blk_frozen BK119.out 0
                have hfz22_1 := blk_frozen BK119.out 1
                have hfz22_2 := blk_frozen BK119.out 2
                have hfz22_3 := blk_frozen BK119.out 3
                have hfz22_4 := blk_frozen BK119.out 4
                have hfz22_5 := blk_frozen BK119.out 5
                have hfz22_6 := blk_frozen BK119.out 6
                have hcz23_0 : wc.cell? ⟨gb120, 0, none⟩ = some (.bool a1_0) := (blk_cell BK120.out 0).trans rfl
                have hcz23_1 : wc.cell? ⟨gb120, 1, none⟩ = some (.bool a1_1) := (blk_cell BK120.out 1).trans rfl
                have hcz23_2 : wc.cell? ⟨gb120, 2, none⟩ = some (.bool true) := (blk_cell BK120.out 2).trans rfl
                have hcz23_3 : wc.cell? ⟨gb120, 3, none⟩ = some (.bool a1_3) := (blk_cell BK120.out 3).trans rfl
                have hcz23_4 : wc.cell? ⟨gb120, 4, none⟩ = some (.int .u32 a1_4) := (blk_cell BK120.out 4).trans rfl
                have hcz23_5 : wc.cell? ⟨gb120, 5, none⟩ = some (.int .u32 a1_5) := (blk_cell BK120.out 5).trans rfl
                have hcz23_6 : wc.cell? ⟨gb120, 6, none⟩ = some (.int .i64 a1_6) := (blk_cell BK120.out 6).trans rfl
                have hfz23_0 := blk_frozen BK120.out 0
                have hfz23_1 := blk_frozen BK120.out 1
                have hfz23_2 := blk_frozen BK120.out 2
                have hfz23_3 := blk_frozen BK120.out 3
                have hfz23_4 := blk_frozen BK120.out 4
                have hfz23_5 := blk_frozen BK120.out 5
                have hfz23_6 := blk_frozen BK120.out 6
                go_wp2
                go_meet
                case rel => exact ⟨_, (false), (by first | rfl | (simp; done) | (simp [*]; done)), H', ⟨by have := HJ2.out; first | omega | exact Nat.le_refl _⟩, ⟨by (with_reducible repeat (first | refine blk_drewN ?_ _ | refine blk_drew ?_ | refine blk_alloc ?_ _)); exact BK119.out⟩, ⟨by (with_reducible repeat (first | refine blk_drewN ?_ _ | refine blk_drew ?_ | refine blk_alloc ?_ _)); exact BK120.out⟩, ⟨by repeat (first | (with_reducible first | exact HB.out | apply below_alloc | apply pw_below_drewN | apply below_drew1 | refine below_set ?_ GE119.out | refine below_set ?_ GE120.out) | exact HB.out)⟩⟩
            · replace c16 := Bool.eq_false_iff.mpr c16
              subst c16
              have H1 : (config_Fits.j1 kj2 true a0_0 a0_1 true a0_3 a0_4 a0_5 a0_6 a1_0 a1_1 false a1_3 a1_4 a1_5 a1_6) = some r := by rw [if_neg (show ¬ (false = true) by decide)] at H; exact H
              clear H
              have H := H1
              clear H1
              have H' := Aside0.mk H
              clear H
              have hnb24 := NB119_120.out
              have hnc24 := NB120_119.out
              have hcz25_0 : wc.cell? ⟨gb119, 0, none⟩ = some (.bool a0_0) := (blk_cell BK119.out 0).trans rfl
              have hcz25_1 : wc.cell? ⟨gb119, 1, none⟩ = some (.bool a0_1) := (blk_cell BK119.out 1).trans rfl
              have hcz25_2 : wc.cell? ⟨gb119, 2, none⟩ = some (.bool true) := (blk_cell BK119.out 2).trans rfl
              have hcz25_3 : wc.cell? ⟨gb119, 3, none⟩ = some (.bool a0_3) := (blk_cell BK119.out 3).trans rfl
              have hcz25_4 : wc.cell? ⟨gb119, 4, none⟩ = some (.int .u32 a0_4) := (blk_cell BK119.out 4).trans rfl
              have hcz25_5 : wc.cell? ⟨gb119, 5, none⟩ = some (.int .u32 a0_5) := (blk_cell BK119.out 5).trans rfl
              have hcz25_6 : wc.cell? ⟨gb119, 6, none⟩ = some (.int .i64 a0_6) := (blk_cell BK119.out 6).trans rfl
              have hfz25_0 := blk_frozen BK119.out 0
              have hfz25_1 := blk_frozen BK119.out 1
              have hfz25_2 := blk_frozen BK119.out 2
              have hfz25_3 := blk_frozen BK119.out 3
              have hfz25_4 := blk_frozen BK119.out 4
              have hfz25_5 := blk_frozen BK119.out 5
              have hfz25_6 := blk_frozen BK119.out 6
              have hcz26_0 : wc.cell? ⟨gb120, 0, none⟩ = some (.bool a1_0) := (blk_cell BK120.out 0).trans rfl
              have hcz26_1 : wc.cell? ⟨gb120, 1, none⟩ = some (.bool a1_1) := (blk_cell BK120.out 1).trans rfl
              have hcz26_2 : wc.cell? ⟨gb120, 2, none⟩ = some (.bool false) := (blk_cell BK120.out 2).trans rfl
              have hcz26_3 : wc.cell? ⟨gb120, 3, none⟩ = some (.bool a1_3) := (blk_cell BK120.out 3).trans rfl
              have hcz26_4 : wc.cell? ⟨gb120, 4, none⟩ = some (.int .u32 a1_4) := (blk_cell BK120.out 4).trans rfl
              have hcz26_5 : wc.cell? ⟨gb120, 5, none⟩ = some (.int .u32 a1_5) := (blk_cell BK120.out 5).trans rfl
              have hcz26_6 : wc.cell? ⟨gb120, 6, none⟩ = some (.int .i64 a1_6) := (blk_cell BK120.out 6).trans rfl
              have hfz26_0 := blk_frozen BK120.out 0
              have hfz26_1 := blk_frozen BK120.out 1
              have hfz26_2 := blk_frozen BK120.out 2
              have hfz26_3 := blk_frozen BK120.out 3
              have hfz26_4 := blk_frozen BK120.out 4
              have hfz26_5 := blk_frozen BK120.out 5
              have hfz26_6 := blk_frozen BK120.out 6
              go_wp2
              go_meet
              case rel => exact ⟨_, (true), (by first | rfl | (simp; done) | (simp [*]; done)), H', ⟨by have := HJ2.out; first | omega | exact Nat.le_refl _⟩, ⟨by (with_reducible repeat (first | refine blk_drewN ?_ _ | refine blk_drew ?_ | refine blk_alloc ?_ _)); exact BK119.out⟩, ⟨by (with_reducible repeat (first | refine blk_drewN ?_ _ | refine blk_drew ?_ | refine blk_alloc ?_ _)); exact BK120.out⟩, ⟨by repeat (first | (with_reducible first | exact HB.out | apply below_alloc | apply pw_below_drewN | apply below_drew1 | refine below_set ?_ GE119.out | refine below_set ?_ GE120.out) | exact HB.out)⟩⟩
          · replace c15 := Bool.eq_false_iff.mpr c15
            subst c15
            have H1 : (if a0_3 = true then (config_Fits.j1 kj2 (!a1_3) a0_0 a0_1 false a0_3 a0_4 a0_5 a0_6 a1_0 a1_1 a1_2 a1_3 a1_4 a1_5 a1_6) else (config_Fits.j1 kj2 false a0_0 a0_1 false a0_3 a0_4 a0_5 a0_6 a1_0 a1_1 a1_2 a1_3 a1_4 a1_5 a1_6)) = some r := by rw [if_neg (show ¬ (false = true) by decide)] at H; exact H
            clear H
            have H := H1
            clear H1
            by_cases c27 : a0_3 = true
            · subst c27
              have H1 : (config_Fits.j1 kj2 (!a1_3) a0_0 a0_1 false true a0_4 a0_5 a0_6 a1_0 a1_1 a1_2 a1_3 a1_4 a1_5 a1_6) = some r := by rw [if_pos rfl] at H; exact H
              clear H
              have H := H1
              clear H1
              have H' := Aside0.mk H
              clear H
              have hnb28 := NB119_120.out
              have hnc28 := NB120_119.out
              have hcz29_0 : wc.cell? ⟨gb119, 0, none⟩ = some (.bool a0_0) := (blk_cell BK119.out 0).trans rfl
              have hcz29_1 : wc.cell? ⟨gb119, 1, none⟩ = some (.bool a0_1) := (blk_cell BK119.out 1).trans rfl
              have hcz29_2 : wc.cell? ⟨gb119, 2, none⟩ = some (.bool false) := (blk_cell BK119.out 2).trans rfl
              have hcz29_3 : wc.cell? ⟨gb119, 3, none⟩ = some (.bool true) := (blk_cell BK119.out 3).trans rfl
              have hcz29_4 : wc.cell? ⟨gb119, 4, none⟩ = some (.int .u32 a0_4) := (blk_cell BK119.out 4).trans rfl
              have hcz29_5 : wc.cell? ⟨gb119, 5, none⟩ = some (.int .u32 a0_5) := (blk_cell BK119.out 5).trans rfl
              have hcz29_6 : wc.cell? ⟨gb119, 6, none⟩ = some (.int .i64 a0_6) := (blk_cell BK119.out 6).trans rfl
              have hfz29_0 := blk_frozen BK119.out 0
              have hfz29_1 := blk_frozen BK119.out 1
              have hfz29_2 := blk_frozen BK119.out 2
              have hfz29_3 := blk_frozen BK119.out 3
              have hfz29_4 := blk_frozen BK119.out 4
              have hfz29_5 := blk_frozen BK119.out 5
              have hfz29_6 := blk_frozen BK119.out 6
              have hcz30_0 : wc.cell? ⟨gb120, 0, none⟩ = some (.bool a1_0) := (blk_cell BK120.out 0).trans rfl
              have hcz30_1 : wc.cell? ⟨gb120, 1, none⟩ = some (.bool a1_1) := (blk_cell BK120.out 1).trans rfl
              have hcz30_2 : wc.cell? ⟨gb120, 2, none⟩ = some (.bool a1_2) := (blk_cell BK120.out 2).trans rfl
              have hcz30_3 : wc.cell? ⟨gb120, 3, none⟩ = some (.bool a1_3) := (blk_cell BK120.out 3).trans rfl
              have hcz30_4 : wc.cell? ⟨gb120, 4, none⟩ = some (.int .u32 a1_4) := (blk_cell BK120.out 4).trans rfl
              have hcz30_5 : wc.cell? ⟨gb120, 5, none⟩ = some (.int .u32 a1_5) := (blk_cell BK120.out 5).trans rfl
              have hcz30_6 : wc.cell? ⟨gb120, 6, none⟩ = some (.int .i64 a1_6) := (blk_cell BK120.out 6).trans rfl
              have hfz30_0 := blk_frozen BK120.out 0
              have hfz30_1 := blk_frozen BK120.out 1
              have hfz30_2 := blk_frozen BK120.out 2
              have hfz30_3 := blk_frozen BK120.out 3
              have hfz30_4 := blk_frozen BK120.out 4
              have hfz30_5 := blk_frozen BK120.out 5
              have hfz30_6 := blk_frozen BK120.out 6
              go_wp2
              go_meet
              case rel => exact ⟨_, (!a1_3), (by first | rfl | (simp; done) | (simp [*]; done)), H', ⟨by have := HJ2.out; first | omega | exact Nat.le_refl _⟩, ⟨by (with_reducible repeat (first | refine blk_drewN ?_ _ | refine blk_drew ?_ | refine blk_alloc ?_ _)); exact BK119.out⟩, ⟨by (with_reducible repeat (first | refine blk_drewN ?_ _ | refine blk_drew ?_ | refine blk_alloc ?_ _)); exact BK120.out⟩, ⟨by repeat (first | (with_reducible first | exact HB.out | apply below_alloc | apply pw_below_drewN | apply below_drew1 | refine below_set ?_ GE119.out | refine below_set ?_ GE120.out) | exact HB.out)⟩⟩
            · replace c27 := Bool.eq_false_iff.mpr c27
              subst c27
              have H1 : (config_Fits.j1 kj2 false a0_0 a0_1 false false a0_4 a0_5 a0_6 a1_0 a1_1 a1_2 a1_3 a1_4 a1_5 a1_6) = some r := by rw [if_neg (show ¬ (false = true) by decide)] at H; exact H
              clear H
              have H := H1
              clear H1
              have H' := Aside0.mk H
              clear H
              have hnb31 := NB119_120.out
              have hnc31 := NB120_119.out
              have hcz32_0 : wc.cell? ⟨gb119, 0, none⟩ = some (.bool a0_0) := (blk_cell BK119.out 0).trans rfl
              have hcz32_1 : wc.cell? ⟨gb119, 1, none⟩ = some (.bool a0_1) := (blk_cell BK119.out 1).trans rfl
              have hcz32_2 : wc.cell? ⟨gb119, 2, none⟩ = some (.bool false) := (blk_cell BK119.out 2).trans rfl
              have hcz32_3 : wc.cell? ⟨gb119, 3, none⟩ = some (.bool false) := (blk_cell BK119.out 3).trans rfl
              have hcz32_4 : wc.cell? ⟨gb119, 4, none⟩ = some (.int .u32 a0_4) := (blk_cell BK119.out 4).trans rfl
              have hcz32_5 : wc.cell? ⟨gb119, 5, none⟩ = some (.int .u32 a0_5) := (blk_cell BK119.out 5).trans rfl
              have hcz32_6 : wc.cell? ⟨gb119, 6, none⟩ = some (.int .i64 a0_6) := (blk_cell BK119.out 6).trans rfl
              have hfz32_0 := blk_frozen BK119.out 0
              have hfz32_1 := blk_frozen BK119.out 1
              have hfz32_2 := blk_frozen BK119.out 2
              have hfz32_3 := blk_frozen BK119.out 3
              have hfz32_4 := blk_frozen BK119.out 4
              have hfz32_5 := blk_frozen BK119.out 5
              have hfz32_6 := blk_frozen BK119.out 6
              go_wp2
              go_meet
              case rel => exact ⟨_, (false), (by first | rfl | (simp; done) | (simp [*]; done)), H', ⟨by have := HJ2.out; first | omega | exact Nat.le_refl _⟩, ⟨by (with_reducible repeat (first | refine blk_drewN ?_ _ | refine blk_drew ?_ | refine blk_alloc ?_ _)); exact BK119.out⟩, ⟨by (with_reducible repeat (first | refine blk_drewN ?_ _ | refine blk_drew ?_ | refine blk_alloc ?_ _)); exact BK120.out⟩, ⟨by repeat (first | (with_reducible first | exact HB.out | apply below_alloc | apply pw_below_drewN | apply below_drew1 | refine below_set ?_ GE119.out | refine below_set ?_ GE120.out) | exact HB.out)⟩⟩
        case rest =>
          clear HC14
          try clear c1
          try clear c2
          try clear p2
          try clear c3
          try clear c6
          try clear c6b0
          try clear c6b1
          try clear c6b2
          try clear c7
          try clear c10
          try clear c13
          try clear c15
          try clear c16
          try clear c17
          try clear c18
          try clear c21
          try clear c22
          try clear c24
          try clear c27
          try clear c28
          try clear c31
          try clear hcz11_0
          try clear hcz11_1
          try clear hcz11_2
          try clear hcz11_3
          try clear hcz11_4
          try clear hcz11_5
          try clear hcz11_6
          try clear hcz12_0
          try clear hcz12_1
          try clear hcz12_2
          try clear hcz12_3
          try clear hcz12_4
          try clear hcz12_5
          try clear hcz12_6
          try clear hcz19_0
          try clear hcz19_1
          try clear hcz19_2
          try clear hcz19_3
          try clear hcz19_4
          try clear hcz19_5
          try clear hcz19_6
          try clear hcz20_0
          try clear hcz20_1
          try clear hcz20_2
          try clear hcz20_3
          try clear hcz20_4
          try clear hcz20_5
          try clear hcz20_6
          try clear hcz22_0
          try clear hcz22_1
          try clear hcz22_2
          try clear hcz22_3
          try clear hcz22_4
          try clear hcz22_5
          try clear hcz22_6
          try clear hcz23_0
          try clear hcz23_1
          try clear hcz23_2
          try clear hcz23_3
          try clear hcz23_4
          try clear hcz23_5
          try clear hcz23_6
          try clear hcz25_0
          try clear hcz25_1
          try clear hcz25_2
          try clear hcz25_3
          try clear hcz25_4
          try clear hcz25_5
          try clear hcz25_6
          try clear hcz26_0
          try clear hcz26_1
          try clear hcz26_2
          try clear hcz26_3
          try clear hcz26_4
          try clear hcz26_5
          try clear hcz26_6
          try clear hcz29_0
          try clear hcz29_1
          try clear hcz29_2
          try clear hcz29_3
          try clear hcz29_4
          try clear hcz29_5
          try clear hcz29_6
          try clear hcz30_0
          try clear hcz30_1
          try clear hcz30_2
          try clear hcz30_3
          try clear hcz30_4
          try clear hcz30_5
          try clear hcz30_6
          try clear hcz32_0
          try clear hcz32_1
          try clear hcz32_2
          try clear hcz32_3
          try clear hcz32_4
          try clear hcz32_5
          try clear hcz32_6
          try clear hcz8_0
          try clear hcz8_1
          try clear hcz8_2
          try clear hcz8_3
          try clear hcz8_4
          try clear hcz8_5
          try clear hcz8_6
          try clear hcz9_0
          try clear hcz9_1
          try clear hcz9_2
          try clear hcz9_3
          try clear hcz9_4
          try clear hcz9_5
          try clear hcz9_6
          try clear hfz11_0
          try clear hfz11_1
          try clear hfz11_2
          try clear hfz11_3
          try clear hfz11_4
          try clear hfz11_5
          try clear hfz11_6
          try clear hfz12_0
          try clear hfz12_1
          try clear hfz12_2
          try clear hfz12_3
          try clear hfz12_4
          try clear hfz12_5
          try clear hfz12_6
          try clear hfz19_0
          try clear hfz19_1
          try clear hfz19_2
          try clear hfz19_3
          try clear hfz19_4
          try clear hfz19_5
          try clear hfz19_6
          try clear hfz20_0
          try clear hfz20_1
          try clear hfz20_2
          try clear hfz20_3
          try clear hfz20_4
          try clear hfz20_5
          try clear hfz20_6
          try clear hfz22_0
          try clear hfz22_1
          try clear hfz22_2
          try clear hfz22_3
          try clear hfz22_4
          try clear hfz22_5
          try clear hfz22_6
          try clear hfz23_0
          try clear hfz23_1
          try clear hfz23_2
          try clear hfz23_3
          try clear hfz23_4
          try clear hfz23_5
          try clear hfz23_6
          try clear hfz25_0
          try clear hfz25_1
          try clear hfz25_2
          try clear hfz25_3
          try clear hfz25_4
          try clear hfz25_5
          try clear hfz25_6
          try clear hfz26_0
          try clear hfz26_1
          try clear hfz26_2
          try clear hfz26_3
          try clear hfz26_4
          try clear hfz26_5
          try clear hfz26_6
          try clear hfz29_0
          try clear hfz29_1
          try clear hfz29_2
          try clear hfz29_3
          try clear hfz29_4
          try clear hfz29_5
          try clear hfz29_6
          try clear hfz30_0
          try clear hfz30_1
          try clear hfz30_2
          try clear hfz30_3
          try clear hfz30_4
          try clear hfz30_5
          try clear hfz30_6
          try clear hfz32_0
          try clear hfz32_1
          try clear hfz32_2
          try clear hfz32_3
          try clear hfz32_4
          try clear hfz32_5
          try clear hfz32_6
          try clear hfz8_0
          try clear hfz8_1
          try clear hfz8_2
          try clear hfz8_3
          try clear hfz8_4
          try clear hfz8_5
          try clear hfz8_6
          try clear hfz9_0
          try clear hfz9_1
          try clear hfz9_2
          try clear hfz9_3
          try clear hfz9_4
          try clear hfz9_5
          try clear hfz9_6
          try clear p2
          obtain ⟨kq, x18_13, rfl, HA, HJ13, BK119, BK120, HB⟩ := hcut
          cases kq with
          | zero => exact absurd HA.out (by simp [config_Fits.j1])
          | succ kj13 =>
            have H := HA.out
            clear HA
            simp only [config_Fits.j1] at H
            by_cases c33 : x18_13 = true
            · subst c33
              have H1 : (some false) = some r := by rw [if_pos rfl] at H; exact H
              clear H
              have H := H1
              clear H1
              obtain rfl := Option.some.inj H
              go_wp2
              go_ret
              exact ⟨by first | rfl | (simp [errW_none, errW_some] <;> rfl) | (simp [*, errW_none, errW_some] <;> rfl), by repeat (first | (with_reducible first | exact HB.out | apply below_alloc | apply pw_below_drewN | apply below_drew1 | refine below_set ?_ GE119.out | refine below_set ?_ GE120.out) | exact HB.out)⟩
            · replace c33 := Bool.eq_false_iff.mpr c33
              subst c33
              have H1 : (if a0_0 = true then (config_Fits.j2 kj13 false a0_0 a0_1 a0_2 a0_3 a0_4 a0_5 a0_6 a1_0 a1_1 a1_2 a1_3 a1_4 a1_5 a1_6) else ((accm_Within.f a1_5 a0_4).bind fun t121 => (config_Fits.j2 kj13 (!t121) a0_0 a0_1 a0_2 a0_3 a0_4 a0_5 a0_6 a1_0 a1_1 a1_2 a1_3 a1_4 a1_5 a1_6))) = some r := by rw [if_neg (show ¬ (false = true) by decide)] at H; exact H
              clear H
              have H := H1
              clear H1
              have HC34 := Aside0.mk H
              clear H
              go_upto_region 4 with (fail)
              go_cut [35] (fun v35 wc => ∃ (kq : Nat) (x35_33 : Bool), v35 = .bool x35_33 ∧ Aside0 (config_Fits.j2 kq x35_33 a0_0 a0_1 a0_2 a0_3 a0_4 a0_5 a0_6 a1_0 a1_1 a1_2 a1_3 a1_4 a1_5 a1_6 = some r) ∧ Aside0 (kq ≤ kj13) ∧ Aside0 (wc.heap[gb119]? = some (.cells #[.bool a0_0, .bool a0_1, .bool a0_2, .bool a0_3, .int .u32 a0_4, .int .u32 a0_5, .int .i64 a0_6] 26 (0, 0))) ∧ Aside0 (wc.heap[gb120]? = some (.cells #[.bool a1_0, .bool a1_1, .bool a1_2, .bool a1_3, .int .u32 a1_4, .int .u32 a1_5, .int .i64 a1_6] 26 (0, 0))) ∧ Aside0 (Below w.heap.size w wc))
              case first =>
                have H := HC34.out
                clear HC34
                by_cases c35 : a0_0 = true
                · subst c35
                  have H1 : (config_Fits.j2 kj13 false true a0_1 a0_2 a0_3 a0_4 a0_5 a0_6 a1_0 a1_1 a1_2 a1_3 a1_4 a1_5 a1_6) = some r := by rw [if_pos rfl] at H; exact H
                  clear H
                  have H := H1
                  clear H1
                  have H' := Aside0.mk H
                  clear H
                  have hnb36 := NB119_120.out
                  have hnc36 := NB120_119.out
                  have hcz37_0 : wc.cell? ⟨gb119, 0, none⟩ = some (.bool true) := (blk_cell BK119.out 0).trans rfl
                  have hcz37_1 : wc.cell? ⟨gb119, 1, none⟩ = some (.bool a0_1) := (blk_cell BK119.out 1).trans rfl
                  have hcz37_2 : wc.cell? ⟨gb119, 2, none⟩ = some (.bool a0_2) := (blk_cell BK119.out 2).trans rfl
                  have hcz37_3 : wc.cell? ⟨gb119, 3, none⟩ = some (.bool a0_3) := (blk_cell BK119.out 3).trans rfl
                  have hcz37_4 : wc.cell? ⟨gb119, 4, none⟩ = some (.int .u32 a0_4) := (blk_cell BK119.out 4).trans rfl
                  have hcz37_5 : wc.cell? ⟨gb119, 5, none⟩ = some (.int .u32 a0_5) := (blk_cell BK119.out 5).trans rfl
                  have hcz37_6 : wc.cell? ⟨gb119, 6, none⟩ = some (.int .i64 a0_6) := (blk_cell BK119.out 6).trans rfl
                  have hfz37_0 := blk_frozen BK119.out 0
                  have hfz37_1 := blk_frozen BK119.out 1
                  have hfz37_2 := blk_frozen BK119.out 2
                  have hfz37_3 := blk_frozen BK119.out 3
                  have hfz37_4 := blk_frozen BK119.out 4
                  have hfz37_5 := blk_frozen BK119.out 5
                  have hfz37_6 := blk_frozen BK119.out 6
                  go_wp2
                  go_meet
                  case rel => exact ⟨_, (false), (by first | rfl | (simp; done) | (simp [*]; done)), H', ⟨by have := HJ2.out; have := HJ13.out; first | omega | exact Nat.le_refl _⟩, ⟨by (with_reducible repeat (first | refine blk_drewN ?_ _ | refine blk_drew ?_ | refine blk_alloc ?_ _)); exact BK119.out⟩, ⟨by (with_reducible repeat (first | refine blk_drewN ?_ _ | refine blk_drew ?_ | refine blk_alloc ?_ _)); exact BK120.out⟩, ⟨by repeat (first | (with_reducible first | exact HB.out | apply below_alloc | apply pw_below_drewN | apply below_drew1 | refine below_set ?_ GE119.out | refine below_set ?_ GE120.out) | exact HB.out)⟩⟩
                · replace c35 := Bool.eq_false_iff.mpr c35
                  subst c35
                  have H1 : ((accm_Within.f a1_5 a0_4).bind fun t121 => (config_Fits.j2 kj13 (!t121) false a0_1 a0_2 a0_3 a0_4 a0_5 a0_6 a1_0 a1_1 a1_2 a1_3 a1_4 a1_5 a1_6)) = some r := by rw [if_neg (show ¬ (false = true) by decide)] at H; exact H
                  clear H
                  have H := H1
                  clear H1
                  replace H := Option.bind_eq_some_iff.mp H
                  obtain ⟨t121, A380, H⟩ := H
                  replace H : (config_Fits.j2 kj13 (!t121) false a0_1 a0_2 a0_3 a0_4 a0_5 a0_6 a1_0 a1_1 a1_2 a1_3 a1_4 a1_5 a1_6) = some r := H
                  have A38 := Aside0.mk A380
                  clear A380
                  have H' := Aside0.mk H
                  clear H
                  have hnb39 := NB119_120.out
                  have hnc39 := NB120_119.out
                  have hcz40_0 : wc.cell? ⟨gb119, 0, none⟩ = some (.bool false) := (blk_cell BK119.out 0).trans rfl
                  have hcz40_1 : wc.cell? ⟨gb119, 1, none⟩ = some (.bool a0_1) := (blk_cell BK119.out 1).trans rfl
                  have hcz40_2 : wc.cell? ⟨gb119, 2, none⟩ = some (.bool a0_2) := (blk_cell BK119.out 2).trans rfl
                  have hcz40_3 : wc.cell? ⟨gb119, 3, none⟩ = some (.bool a0_3) := (blk_cell BK119.out 3).trans rfl
                  have hcz40_4 : wc.cell? ⟨gb119, 4, none⟩ = some (.int .u32 a0_4) := (blk_cell BK119.out 4).trans rfl
                  have hcz40_5 : wc.cell? ⟨gb119, 5, none⟩ = some (.int .u32 a0_5) := (blk_cell BK119.out 5).trans rfl
                  have hcz40_6 : wc.cell? ⟨gb119, 6, none⟩ = some (.int .i64 a0_6) := (blk_cell BK119.out 6).trans rfl
                  have hfz40_0 := blk_frozen BK119.out 0
                  have hfz40_1 := blk_frozen BK119.out 1
                  have hfz40_2 := blk_frozen BK119.out 2
                  have hfz40_3 := blk_frozen BK119.out 3
                  have hfz40_4 := blk_frozen BK119.out 4
                  have hfz40_5 := blk_frozen BK119.out 5
                  have hfz40_6 := blk_frozen BK119.out 6
                  have hcz41_0 : wc.cell? ⟨gb120, 0, none⟩ = some (.bool a1_0) := (blk_cell BK120.out 0).trans rfl
                  have hcz41_1 : wc.cell? ⟨gb120, 1, none⟩ = some (.bool a1_1) := (blk_cell BK120.out 1).trans rfl
                  have hcz41_2 : wc.cell? ⟨gb120, 2, none⟩ = some (.bool a1_2) := (blk_cell BK120.out 2).trans rfl
                  have hcz41_3 : wc.cell? ⟨gb120, 3, none⟩ = some (.bool a1_3) := (blk_cell BK120.out 3).trans rfl
                  have hcz41_4 : wc.cell? ⟨gb120, 4, none⟩ = some (.int .u32 a1_4) := (blk_cell BK120.out 4).trans rfl
                  have hcz41_5 : wc.cell? ⟨gb120, 5, none⟩ = some (.int .u32 a1_5) := (blk_cell BK120.out 5).trans rfl
                  have hcz41_6 : wc.cell? ⟨gb120, 6, none⟩ = some (.int .i64 a1_6) := (blk_cell BK120.out 6).trans rfl
                  have hfz41_0 := blk_frozen BK120.out 0
                  have hfz41_1 := blk_frozen BK120.out 1
                  have hfz41_2 := blk_frozen BK120.out 2
                  have hfz41_3 := blk_frozen BK120.out 3
                  have hfz41_4 := blk_frozen BK120.out 4
                  have hfz41_5 := blk_frozen BK120.out 5
                  have hfz41_6 := blk_frozen BK120.out 6
                  go_wp2_with (first | (go_at_call 54; (with_reducible refine (accm_Within.calls a1_5 a0_4 t121 _ A38.out).mono ?_); rintro e w' ⟨rfl, ⟨nd, rfl⟩⟩))
                  go_meet
                  case rel => exact ⟨_, (!t121), (by first | rfl | (simp; done) | (simp [*]; done)), H', ⟨by have := HJ2.out; have := HJ13.out; first | omega | exact Nat.le_refl _⟩, ⟨by (with_reducible repeat (first | refine blk_drewN ?_ _ | refine blk_drew ?_ | refine blk_alloc ?_ _)); exact BK119.out⟩, ⟨by (with_reducible repeat (first | refine blk_drewN ?_ _ | refine blk_drew ?_ | refine blk_alloc ?_ _)); exact BK120.out⟩, ⟨by repeat (first | (with_reducible first | exact HB.out | apply below_alloc | apply pw_below_drewN | apply below_drew1 | refine below_set ?_ GE119.out | refine below_set ?_ GE120.out) | exact HB.out)⟩⟩
              case rest =>
                clear HC34
                try clear c1
                try clear c2
                try clear p2
                try clear c3
                try clear c6
                try clear c6b0
                try clear c6b1
                try clear c6b2
                try clear c7
                try clear c10
                try clear c13
                try clear c15
                try clear c16
                try clear c17
                try clear c18
                try clear c21
                try clear c22
                try clear c24
                try clear c27
                try clear c28
                try clear c31
                try clear c33
                try clear c35
                try clear c36
                try clear c39
                try clear hcz11_0
                try clear hcz11_1
                try clear hcz11_2
                try clear hcz11_3
                try clear hcz11_4
                try clear hcz11_5
                try clear hcz11_6
                try clear hcz12_0
                try clear hcz12_1
                try clear hcz12_2
                try clear hcz12_3
                try clear hcz12_4
                try clear hcz12_5
                try clear hcz12_6
                try clear hcz19_0
                try clear hcz19_1
                try clear hcz19_2
                try clear hcz19_3
                try clear hcz19_4
                try clear hcz19_5
                try clear hcz19_6
                try clear hcz20_0
                try clear hcz20_1
                try clear hcz20_2
                try clear hcz20_3
                try clear hcz20_4
                try clear hcz20_5
                try clear hcz20_6
                try clear hcz22_0
                try clear hcz22_1
                try clear hcz22_2
                try clear hcz22_3
                try clear hcz22_4
                try clear hcz22_5
                try clear hcz22_6
                try clear hcz23_0
                try clear hcz23_1
                try clear hcz23_2
                try clear hcz23_3
                try clear hcz23_4
                try clear hcz23_5
                try clear hcz23_6
                try clear hcz25_0
                try clear hcz25_1
                try clear hcz25_2
                try clear hcz25_3
                try clear hcz25_4
                try clear hcz25_5
                try clear hcz25_6
                try clear hcz26_0
                try clear hcz26_1
                try clear hcz26_2
                try clear hcz26_3
                try clear hcz26_4
                try clear hcz26_5
                try clear hcz26_6
                try clear hcz29_0
                try clear hcz29_1
                try clear hcz29_2
                try clear hcz29_3
                try clear hcz29_4
                try clear hcz29_5
                try clear hcz29_6
                try clear hcz30_0
                try clear hcz30_1
                try clear hcz30_2
                try clear hcz30_3
                try clear hcz30_4
                try clear hcz30_5
                try clear hcz30_6
                try clear hcz32_0
                try clear hcz32_1
                try clear hcz32_2
                try clear hcz32_3
                try clear hcz32_4
                try clear hcz32_5
                try clear hcz32_6
                try clear hcz37_0
                try clear hcz37_1
                try clear hcz37_2
                try clear hcz37_3
                try clear hcz37_4
                try clear hcz37_5
                try clear hcz37_6
                try clear hcz40_0
                try clear hcz40_1
                try clear hcz40_2
                try clear hcz40_3
                try clear hcz40_4
                try clear hcz40_5
                try clear hcz40_6
                try clear hcz41_0
                try clear hcz41_1
                try clear hcz41_2
                try clear hcz41_3
                try clear hcz41_4
                try clear hcz41_5
                try clear hcz41_6
                try clear hcz8_0
                try clear hcz8_1
                try clear hcz8_2
                try clear hcz8_3
                try clear hcz8_4
                try clear hcz8_5
                try clear hcz8_6
                try clear hcz9_0
                try clear hcz9_1
                try clear hcz9_2
                try clear hcz9_3
                try clear hcz9_4
                try clear hcz9_5
                try clear hcz9_6
                try clear hfz11_0
                try clear hfz11_1
                try clear hfz11_2
                try clear hfz11_3
                try clear hfz11_4
                try clear hfz11_5
                try clear hfz11_6
                try clear hfz12_0
                try clear hfz12_1
                try clear hfz12_2
                try clear hfz12_3
                try clear hfz12_4
                try clear hfz12_5
                try clear hfz12_6
                try clear hfz19_0
                try clear hfz19_1
                try clear hfz19_2
                try clear hfz19_3
                try clear hfz19_4
                try clear hfz19_5
                try clear hfz19_6
                try clear hfz20_0
                try clear hfz20_1
                try clear hfz20_2
                try clear hfz20_3
                try clear hfz20_4
                try clear hfz20_5
                try clear hfz20_6
                try clear hfz22_0
                try clear hfz22_1
                try clear hfz22_2
                try clear hfz22_3
                try clear hfz22_4
                try clear hfz22_5
                try clear hfz22_6
                try clear hfz23_0
                try clear hfz23_1
                try clear hfz23_2
                try clear hfz23_3
                try clear hfz23_4
                try clear hfz23_5
                try clear hfz23_6
                try clear hfz25_0
                try clear hfz25_1
                try clear hfz25_2
                try clear hfz25_3
                try clear hfz25_4
                try clear hfz25_5
                try clear hfz25_6
                try clear hfz26_0
                try clear hfz26_1
                try clear hfz26_2
                try clear hfz26_3
                try clear hfz26_4
                try clear hfz26_5
                try clear hfz26_6
                try clear hfz29_0
                try clear hfz29_1
                try clear hfz29_2
                try clear hfz29_3
                try clear hfz29_4
                try clear hfz29_5
                try clear hfz29_6
                try clear hfz30_0
                try clear hfz30_1
                try clear hfz30_2
                try clear hfz30_3
                try clear hfz30_4
                try clear hfz30_5
                try clear hfz30_6
                try clear hfz32_0
                try clear hfz32_1
                try clear hfz32_2
                try clear hfz32_3
                try clear hfz32_4
                try clear hfz32_5
                try clear hfz32_6
                try clear hfz37_0
                try clear hfz37_1
                try clear hfz37_2
                try clear hfz37_3
                try clear hfz37_4
                try clear hfz37_5
                try clear hfz37_6
                try clear hfz40_0
                try clear hfz40_1
                try clear hfz40_2
                try clear hfz40_3
                try clear hfz40_4
                try clear hfz40_5
                try clear hfz40_6
                try clear hfz41_0
                try clear hfz41_1
                try clear hfz41_2
                try clear hfz41_3
                try clear hfz41_4
                try clear hfz41_5
                try clear hfz41_6
                try clear hfz8_0
                try clear hfz8_1
                try clear hfz8_2
                try clear hfz8_3
                try clear hfz8_4
                try clear hfz8_5
                try clear hfz8_6
                try clear hfz9_0
                try clear hfz9_1
                try clear hfz9_2
                try clear hfz9_3
                try clear hfz9_4
                try clear hfz9_5
                try clear hfz9_6
                try clear p2
                obtain ⟨kq, x35_33, rfl, HA, HJ33, BK119, BK120, HB⟩ := hcut
                cases kq with
                | zero => exact absurd HA.out (by simp [config_Fits.j2])
                | succ kj33 =>
                  have H := HA.out
                  clear HA
                  simp only [config_Fits.j2] at H
                  by_cases c42 : x35_33 = true
                  · subst c42
                    have H1 : (some false) = some r := by rw [if_pos rfl] at H; exact H
                    clear H
                    have H := H1
                    clear H1
                    obtain rfl := Option.some.inj H
                    go_wp2
                    go_ret
                    exact ⟨by first | rfl | (simp [errW_none, errW_some] <;> rfl) | (simp [*, errW_none, errW_some] <;> rfl), by repeat (first | (with_reducible first | exact HB.out | apply below_alloc | apply pw_below_drewN | apply below_drew1 | refine below_set ?_ GE119.out | refine below_set ?_ GE120.out) | exact HB.out)⟩
                  · replace c42 := Bool.eq_false_iff.mpr c42
                    subst c42
                    have H1 : (if a0_6 > a1_6 then (some false) else (some true)) = some r := by rw [if_neg (show ¬ (false = true) by decide)] at H; exact H
                    clear H
                    have H := H1
                    clear H1
                    by_cases c43 : a0_6 > a1_6
                    · rw [if_pos c43] at H
                      have c43b0 : decide (a1_6 < a0_6) = true := decide_eq_true c43
                      clear c43
                      obtain rfl := Option.some.inj H
                      have hnb44 := NB119_120.out
                      have hnc44 := NB120_119.out
                      have hcz45_0 : wc.cell? ⟨gb119, 0, none⟩ = some (.bool a0_0) := (blk_cell BK119.out 0).trans rfl
                      have hcz45_1 : wc.cell? ⟨gb119, 1, none⟩ = some (.bool a0_1) := (blk_cell BK119.out 1).trans rfl
                      have hcz45_2 : wc.cell? ⟨gb119, 2, none⟩ = some (.bool a0_2) := (blk_cell BK119.out 2).trans rfl
                      have hcz45_3 : wc.cell? ⟨gb119, 3, none⟩ = some (.bool a0_3) := (blk_cell BK119.out 3).trans rfl
                      have hcz45_4 : wc.cell? ⟨gb119, 4, none⟩ = some (.int .u32 a0_4) := (blk_cell BK119.out 4).trans rfl
                      have hcz45_5 : wc.cell? ⟨gb119, 5, none⟩ = some (.int .u32 a0_5) := (blk_cell BK119.out 5).trans rfl
                      have hcz45_6 : wc.cell? ⟨gb119, 6, none⟩ = some (.int .i64 a0_6) := (blk_cell BK119.out 6).trans rfl
                      have hfz45_0 := blk_frozen BK119.out 0
                      have hfz45_1 := blk_frozen BK119.out 1
                      have hfz45_2 := blk_frozen BK119.out 2
                      have hfz45_3 := blk_frozen BK119.out 3
                      have hfz45_4 := blk_frozen BK119.out 4
                      have hfz45_5 := blk_frozen BK119.out 5
                      have hfz45_6 := blk_frozen BK119.out 6
                      have hcz46_0 : wc.cell? ⟨gb120, 0, none⟩ = some (.bool a1_0) := (blk_cell BK120.out 0).trans rfl
                      have hcz46_1 : wc.cell? ⟨gb120, 1, none⟩ = some (.bool a1_1) := (blk_cell BK120.out 1).trans rfl
                      have hcz46_2 : wc.cell? ⟨gb120, 2, none⟩ = some (.bool a1_2) := (blk_cell BK120.out 2).trans rfl
                      have hcz46_3 : wc.cell? ⟨gb120, 3, none⟩ = some (.bool a1_3) := (blk_cell BK120.out 3).trans rfl
                      have hcz46_4 : wc.cell? ⟨gb120, 4, none⟩ = some (.int .u32 a1_4) := (blk_cell BK120.out 4).trans rfl
                      have hcz46_5 : wc.cell? ⟨gb120, 5, none⟩ = some (.int .u32 a1_5) := (blk_cell BK120.out 5).trans rfl
                      have hcz46_6 : wc.cell? ⟨gb120, 6, none⟩ = some (.int .i64 a1_6) := (blk_cell BK120.out 6).trans rfl
                      have hfz46_0 := blk_frozen BK120.out 0
                      have hfz46_1 := blk_frozen BK120.out 1
                      have hfz46_2 := blk_frozen BK120.out 2
                      have hfz46_3 := blk_frozen BK120.out 3
                      have hfz46_4 := blk_frozen BK120.out 4
                      have hfz46_5 := blk_frozen BK120.out 5
                      have hfz46_6 := blk_frozen BK120.out 6
                      go_wp2
                      go_ret
                      exact ⟨by first | rfl | (simp [errW_none, errW_some] <;> rfl) | (simp [*, errW_none, errW_some] <;> rfl), by repeat (first | (with_reducible first | exact HB.out | apply below_alloc | apply pw_below_drewN | apply below_drew1 | refine below_set ?_ GE119.out | refine below_set ?_ GE120.out) | exact HB.out)⟩
                    · rw [if_neg c43] at H
                      have c43b0 : decide (a1_6 < a0_6) = false := decide_eq_false c43
                      clear c43
                      obtain rfl := Option.some.inj H
                      have hnb47 := NB119_120.out
                      have hnc47 := NB120_119.out
                      have hcz48_0 : wc.cell? ⟨gb119, 0, none⟩ = some (.bool a0_0) := (blk_cell BK119.out 0).trans rfl
                      have hcz48_1 : wc.cell? ⟨gb119, 1, none⟩ = some (.bool a0_1) := (blk_cell BK119.out 1).trans rfl
                      have hcz48_2 : wc.cell? ⟨gb119, 2, none⟩ = some (.bool a0_2) := (blk_cell BK119.out 2).trans rfl
                      have hcz48_3 : wc.cell? ⟨gb119, 3, none⟩ = some (.bool a0_3) := (blk_cell BK119.out 3).trans rfl
                      have hcz48_4 : wc.cell? ⟨gb119, 4, none⟩ = some (.int .u32 a0_4) := (blk_cell BK119.out 4).trans rfl
                      have hcz48_5 : wc.cell? ⟨gb119, 5, none⟩ = some (.int .u32 a0_5) := (blk_cell BK119.out 5).trans rfl
                      have hcz48_6 : wc.cell? ⟨gb119, 6, none⟩ = some (.int .i64 a0_6) := (blk_cell BK119.out 6).trans rfl
                      have hfz48_0 := blk_frozen BK119.out 0
                      have hfz48_1 := blk_frozen BK119.out 1
                      have hfz48_2 := blk_frozen BK119.out 2
                      have hfz48_3 := blk_frozen BK119.out 3
                      have hfz48_4 := blk_frozen BK119.out 4
                      have hfz48_5 := blk_frozen BK119.out 5
                      have hfz48_6 := blk_frozen BK119.out 6
                      have hcz49_0 : wc.cell? ⟨gb120, 0, none⟩ = some (.bool a1_0) := (blk_cell BK120.out 0).trans rfl
                      have hcz49_1 : wc.cell? ⟨gb120, 1, none⟩ = some (.bool a1_1) := (blk_cell BK120.out 1).trans rfl
                      have hcz49_2 : wc.cell? ⟨gb120, 2, none⟩ = some (.bool a1_2) := (blk_cell BK120.out 2).trans rfl
                      have hcz49_3 : wc.cell? ⟨gb120, 3, none⟩ = some (.bool a1_3) := (blk_cell BK120.out 3).trans rfl
                      have hcz49_4 : wc.cell? ⟨gb120, 4, none⟩ = some (.int .u32 a1_4) := (blk_cell BK120.out 4).trans rfl
                      have hcz49_5 : wc.cell? ⟨gb120, 5, none⟩ = some (.int .u32 a1_5) := (blk_cell BK120.out 5).trans rfl
                      have hcz49_6 : wc.cell? ⟨gb120, 6, none⟩ = some (.int .i64 a1_6) := (blk_cell BK120.out 6).trans rfl
                      have hfz49_0 := blk_frozen BK120.out 0
                      have hfz49_1 := blk_frozen BK120.out 1
                      have hfz49_2 := blk_frozen BK120.out 2
                      have hfz49_3 := blk_frozen BK120.out 3
                      have hfz49_4 := blk_frozen BK120.out 4
                      have hfz49_5 := blk_frozen BK120.out 5
                      have hfz49_6 := blk_frozen BK120.out 6
                      go_wp2
                      go_ret
                      exact ⟨by first | rfl | (simp [errW_none, errW_some] <;> rfl) | (simp [*, errW_none, errW_some] <;> rfl), by repeat (first | (with_reducible first | exact HB.out | apply below_alloc | apply pw_below_drewN | apply below_drew1 | refine below_set ?_ GE119.out | refine below_set ?_ GE120.out) | exact HB.out)⟩

end Go.Proofs.YtggpejjfgphihaaDoor.C
