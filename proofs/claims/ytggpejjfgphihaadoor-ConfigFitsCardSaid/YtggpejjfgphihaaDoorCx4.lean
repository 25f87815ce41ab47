-- Printed by the session's own turn of the kit's print program (wip/pprint.py): not trusted, Lean checks it.
import Derived.Test.YtggpejjfgphihaaDoorCx0
import Derived.Test.YtggpejjfgphihaaDoorCx3
namespace Go.Proofs.YtggpejjfgphihaaDoor.C
open Go.Proofs.YtggpejjfgphihaaDoor.Given Go.RowKit Go.Proofs.YtggpejjfgphihaaDoorW.PrintWords Go.Proofs.YtggpejjfgphihaaDoorW.PrintLast Go.Proofs.YtggpejjfgphihaaDoorW.PrintMore
attribute [local go_sem] max2_int min2_int max_two min_two max_three min_three max_four min_four   -- for this text's walks alone
set_option linter.unusedVariables false
set_option linter.unusedSimpArgs false

/-! ### marlineref08_Fits: function 23 -/
mutual
def marlineref08_Fits.j0 : Nat → Bool → Bool → Bool → Bool → Bool → Int → Int → Int → Bool → Bool → Bool → Bool → Int → Int → Int → Option (Bool)
  | 0, _, _, _, _, _, _, _, _, _, _, _, _, _, _, _ => none
  | k + 1, x42, x123000, x123001, x123002, x123003, x123004, x123005, x123006, x124000, x124001, x124002, x124003, x124004, x124005, x124006 => if x42 = true then (some false) else (marlineref08_Fits.l0 k 0 x123000 x123001 x123002 x123003 x123004 x123005 x123006 x124000 x124001 x124002 x124003 x124004 x124005 x124006)
def marlineref08_Fits.l0 : Nat → Int → Bool → Bool → Bool → Bool → Int → Int → Int → Bool → Bool → Bool → Bool → Int → Int → Int → Option (Bool)
  | 0, _, _, _, _, _, _, _, _, _, _, _, _, _, _, _ => none
  | k + 1, x5, x123000, x123001, x123002, x123003, x123004, x123005, x123006, x124000, x124001, x124002, x124003, x124004, x124005, x124006 => if x5 < 32 then (if x123000 = true then (marlineref08_Fits.l0 k ((x5 + 1) % 256) x123000 x123001 x123002 x123003 x123004 x123005 x123006 x124000 x124001 x124002 x124003 x124004 x124005 x124006) else ((marlineref03_Has.f k x124005 x5).bind fun t124 => (if t124 = true then ((marlineref03_Has.f k x123004 x5).bind fun t125 => (if t125 = true then (marlineref08_Fits.l0 k ((x5 + 1) % 256) x123000 x123001 x123002 x123003 x123004 x123005 x123006 x124000 x124001 x124002 x124003 x124004 x124005 x124006) else (some false))) else (marlineref08_Fits.l0 k ((x5 + 1) % 256) x123000 x123001 x123002 x123003 x123004 x123005 x123006 x124000 x124001 x124002 x124003 x124004 x124005 x124006)))) else (some true)
end
def marlineref08_Fits.f (k : Nat) (a0_0 : Bool) (a0_1 : Bool) (a0_2 : Bool) (a0_3 : Bool) (a0_4 : Int) (a0_5 : Int) (a0_6 : Int) (a1_0 : Bool) (a1_1 : Bool) (a1_2 : Bool) (a1_3 : Bool) (a1_4 : Int) (a1_5 : Int) (a1_6 : Int) : Option (Bool) := if (a0_0 != a1_0) = true then (marlineref08_Fits.j0 k true a0_0 a0_1 a0_2 a0_3 a0_4 a0_5 a0_6 a1_0 a1_1 a1_2 a1_3 a1_4 a1_5 a1_6) else (if (a0_1 != a1_1) = true then (marlineref08_Fits.j0 k true a0_0 a0_1 a0_2 a0_3 a0_4 a0_5 a0_6 a1_0 a1_1 a1_2 a1_3 a1_4 a1_5 a1_6) else (if a0_2 = true then (if a1_2 = true then (if a0_3 = true then (if a1_3 = true then (marlineref08_Fits.j0 k (decide (a0_6 > a1_6)) a0_0 a0_1 a0_2 a0_3 a0_4 a0_5 a0_6 a1_0 a1_1 a1_2 a1_3 a1_4 a1_5 a1_6) else (marlineref08_Fits.j0 k true a0_0 a0_1 a0_2 a0_3 a0_4 a0_5 a0_6 a1_0 a1_1 a1_2 a1_3 a1_4 a1_5 a1_6)) else (marlineref08_Fits.j0 k (decide (a0_6 > a1_6)) a0_0 a0_1 a0_2 a0_3 a0_4 a0_5 a0_6 a1_0 a1_1 a1_2 a1_3 a1_4 a1_5 a1_6)) else (marlineref08_Fits.j0 k true a0_0 a0_1 a0_2 a0_3 a0_4 a0_5 a0_6 a1_0 a1_1 a1_2 a1_3 a1_4 a1_5 a1_6)) else (if a0_3 = true then (if a1_3 = true then (marlineref08_Fits.j0 k (decide (a0_6 > a1_6)) a0_0 a0_1 a0_2 a0_3 a0_4 a0_5 a0_6 a1_0 a1_1 a1_2 a1_3 a1_4 a1_5 a1_6) else (marlineref08_Fits.j0 k true a0_0 a0_1 a0_2 a0_3 a0_4 a0_5 a0_6 a1_0 a1_1 a1_2 a1_3 a1_4 a1_5 a1_6)) else (marlineref08_Fits.j0 k (decide (a0_6 > a1_6)) a0_0 a0_1 a0_2 a0_3 a0_4 a0_5 a0_6 a1_0 a1_1 a1_2 a1_3 a1_4 a1_5 a1_6))))
theorem marlineref08_Fits.mono_l : ∀ k, (∀ y0 y1 y2 y3 y4 y5 y6 y7 y8 y9 y10 y11 y12 y13 y14, LeO (marlineref08_Fits.j0 k y0 y1 y2 y3 y4 y5 y6 y7 y8 y9 y10 y11 y12 y13 y14) (marlineref08_Fits.j0 (k + 1) y0 y1 y2 y3 y4 y5 y6 y7 y8 y9 y10 y11 y12 y13 y14)) ∧ (∀ y0 y1 y2 y3 y4 y5 y6 y7 y8 y9 y10 y11 y12 y13 y14, LeO (marlineref08_Fits.l0 k y0 y1 y2 y3 y4 y5 y6 y7 y8 y9 y10 y11 y12 y13 y14) (marlineref08_Fits.l0 (k + 1) y0 y1 y2 y3 y4 y5 y6 y7 y8 y9 y10 y11 y12 y13 y14))
  | 0 => ⟨fun _ _ _ _ _ _ _ _ _ _ _ _ _ _ _ r h => by simp [marlineref08_Fits.j0] at h, fun _ _ _ _ _ _ _ _ _ _ _ _ _ _ _ r h => by simp [marlineref08_Fits.l0] at h⟩
  | k + 1 => by
    obtain ⟨ih0, ih1⟩ := marlineref08_Fits.mono_l k
    refine ⟨?_, ?_⟩
    · intro y0 y1 y2 y3 y4 y5 y6 y7 y8 y9 y10 y11 y12 y13 y14
      unfold marlineref08_Fits.j0
      repeat' first
      | (with_reducible exact ih0 _ _ _ _ _ _ _ _ _ _ _ _ _ _ _)
      | (with_reducible exact ih1 _ _ _ _ _ _ _ _ _ _ _ _ _ _ _)
      | (with_reducible exact marlineref03_Has.mono _ _ _)
      | (with_reducible exact LeO.refl _)
      | (with_reducible exact LeO.none _)
      | (with_reducible refine LeO.ite ?_ ?_)
      | (with_reducible refine LeO.bind ?_ (fun _ => ?_))
      | exact ih0 _ _ _ _ _ _ _ _ _ _ _ _ _ _ _
      | exact ih1 _ _ _ _ _ _ _ _ _ _ _ _ _ _ _
      | exact marlineref03_Has.mono _ _ _
      | exact LeO.none _
      | refine LeO.ite ?_ ?_
      | refine LeO.bind ?_ (fun _ => ?_)
    · intro y0 y1 y2 y3 y4 y5 y6 y7 y8 y9 y10 y11 y12 y13 y14
      unfold marlineref08_Fits.l0
      repeat' first
      | (with_reducible exact ih0 _ _ _ _ _ _ _ _ _ _ _ _ _ _ _)
      | (with_reducible exact ih1 _ _ _ _ _ _ _ _ _ _ _ _ _ _ _)
      | (with_reducible exact marlineref03_Has.mono _ _ _)
      | (with_reducible exact LeO.refl _)
      | (with_reducible exact LeO.none _)
      | (with_reducible refine LeO.ite ?_ ?_)
      | (with_reducible refine LeO.bind ?_ (fun _ => ?_))
      | exact ih0 _ _ _ _ _ _ _ _ _ _ _ _ _ _ _
      | exact ih1 _ _ _ _ _ _ _ _ _ _ _ _ _ _ _
      | exact marlineref03_Has.mono _ _ _
      | exact LeO.none _
      | refine LeO.ite ?_ ?_
      | refine LeO.bind ?_ (fun _ => ?_)
theorem marlineref08_Fits.mono : ∀ a0 a1 a2 a3 a4 a5 a6 a7 a8 a9 a10 a11 a12 a13 k, LeO (marlineref08_Fits.f k a0 a1 a2 a3 a4 a5 a6 a7 a8 a9 a10 a11 a12 a13) (marlineref08_Fits.f (k + 1) a0 a1 a2 a3 a4 a5 a6 a7 a8 a9 a10 a11 a12 a13) := by
  intro a0 a1 a2 a3 a4 a5 a6 a7 a8 a9 a10 a11 a12 a13 k
  obtain ⟨ih0, ih1⟩ := marlineref08_Fits.mono_l k
  unfold marlineref08_Fits.f
  repeat' first
      | (with_reducible exact ih0 _ _ _ _ _ _ _ _ _ _ _ _ _ _ _)
      | (with_reducible exact ih1 _ _ _ _ _ _ _ _ _ _ _ _ _ _ _)
      | (with_reducible exact marlineref03_Has.mono _ _ _)
      | (with_reducible exact LeO.refl _)
      | (with_reducible exact LeO.none _)
      | (with_reducible refine LeO.ite ?_ ?_)
      | (with_reducible refine LeO.bind ?_ (fun _ => ?_))
      | exact ih0 _ _ _ _ _ _ _ _ _ _ _ _ _ _ _
      | exact ih1 _ _ _ _ _ _ _ _ _ _ _ _ _ _ _
      | exact marlineref03_Has.mono _ _ _
      | exact LeO.none _
      | refine LeO.ite ?_ ?_
      | refine LeO.bind ?_ (fun _ => ?_)
set_option maxHeartbeats 8000000 in
set_option maxRecDepth 100000 in
theorem marlineref08_Fits.calls (k : Nat) (a0_0 : Bool) (a0_1 : Bool) (a0_2 : Bool) (a0_3 : Bool) (a0_4 : Int) (a0_5 : Int) (a0_6 : Int) (a1_0 : Bool) (a1_1 : Bool) (a1_2 : Bool) (a1_3 : Bool) (a1_4 : Int) (a1_5 : Int) (a1_6 : Int) (r : Bool) (w : World) (h : marlineref08_Fits.f k a0_0 a0_1 a0_2 a0_3 a0_4 a0_5 a0_6 a1_0 a1_1 a1_2 a1_3 a1_4 a1_5 a1_6 = some r) :
    Calls Tryd.prog 23 #[.agg #[.bool a0_0, .bool a0_1, .bool a0_2, .bool a0_3, .int .u32 a0_4, .int .u32 a0_5, .int .i64 a0_6], .agg #[.bool a1_0, .bool a1_1, .bool a1_2, .bool a1_3, .int .u32 a1_4, .int .u32 a1_5, .int .i64 a1_6]] w fun e w' => e = .returned (.bool r) ∧ Below w.heap.size w w' := by
  have hu24 := Tryd.underlying24
  have HB := Aside0.mk (Below.refl w.heap.size w)
  have H : (if (a0_0 != a1_0) = true then (marlineref08_Fits.j0 k true a0_0 a0_1 a0_2 a0_3 a0_4 a0_5 a0_6 a1_0 a1_1 a1_2 a1_3 a1_4 a1_5 a1_6) else (if (a0_1 != a1_1) = true then (marlineref08_Fits.j0 k true a0_0 a0_1 a0_2 a0_3 a0_4 a0_5 a0_6 a1_0 a1_1 a1_2 a1_3 a1_4 a1_5 a1_6) else (if a0_2 = true then (if a1_2 = true then (if a0_3 = true then (if a1_3 = true then (marlineref08_Fits.j0 k (decide (a0_6 > a1_6)) a0_0 a0_1 a0_2 a0_3 a0_4 a0_5 a0_6 a1_0 a1_1 a1_2 a1_3 a1_4 a1_5 a1_6) else (marlineref08_Fits.j0 k true a0_0 a0_1 a0_2 a0_3 a0_4 a0_5 a0_6 a1_0 a1_1 a1_2 a1_3 a1_4 a1_5 a1_6)) else (marlineref08_Fits.j0 k (decide (a0_6 > a1_6)) a0_0 a0_1 a0_2 a0_3 a0_4 a0_5 a0_6 a1_0 a1_1 a1_2 a1_3 a1_4 a1_5 a1_6)) else (marlineref08_Fits.j0 k true a0_0 a0_1 a0_2 a0_3 a0_4 a0_5 a0_6 a1_0 a1_1 a1_2 a1_3 a1_4 a1_5 a1_6)) else (if a0_3 = true then (if a1_3 = true then (marlineref08_Fits.j0 k (decide (a0_6 > a1_6)) a0_0 a0_1 a0_2 a0_3 a0_4 a0_5 a0_6 a1_0 a1_1 a1_2 a1_3 a1_4 a1_5 a1_6) else (marlineref08_Fits.j0 k true a0_0 a0_1 a0_2 a0_3 a0_4 a0_5 a0_6 a1_0 a1_1 a1_2 a1_3 a1_4 a1_5 a1_6)) else (marlineref08_Fits.j0 k (decide (a0_6 > a1_6)) a0_0 a0_1 a0_2 a0_3 a0_4 a0_5 a0_6 a1_0 a1_1 a1_2 a1_3 a1_4 a1_5 a1_6))))) = some r := h
  clear h
  have HC3 := Aside0.mk H
  clear H
  go_enter Tryd.func23, Tryd.ntmps23
  go_upto_region 1 with (first | ((with_reducible refine gate_dst (N := 2) rfl ?_); refine box_event ?hg (N := 2) ?hd (cs := #[.bool a0_0, .bool a0_1, .bool a0_2, .bool a0_3, .int .u32 a0_4, .int .u32 a0_5, .int .i64 a0_6]) (t := 24) ?hr ?_; (case hd => rfl); (case hg => rfl); (case hr => first | (go_simp; done) | (go_simp; rfl)); intro gb122 hg w4 hbox hb; have n0_ := Aside0.mk (below_step (by repeat (first | (with_reducible first | exact HB.out | apply below_alloc | apply pw_below_drewN | apply below_drew1) | exact HB.out)) hb); have n1_ := Aside0.mk (hbox); have n2_ := Aside0.mk ((by rw [hg]; exact (below_size (by repeat (first | (with_reducible first | exact HB.out | apply below_alloc | apply pw_below_drewN | apply below_drew1) | exact HB.out))) : w.heap.size ≤ gb122)); have n3_ := Aside0.mk ((by rw [hg]; exact (below_size (by repeat (first | (with_reducible first | exact HB.out | apply below_alloc | apply pw_below_drewN | apply below_drew1) | exact HB.out))) : w.heap.size ≤ gb122)); clear HB; have HB := n0_; have BK122 := n1_; have GW122 := n2_; have GE122 := n3_; clear n0_ n1_ n2_ n3_; clear hb hbox hg) | ((with_reducible refine gate_dst (N := 3) rfl ?_); refine box_event ?hg (N := 3) ?hd (cs := #[.bool a1_0, .bool a1_1, .bool a1_2, .bool a1_3, .int .u32 a1_4, .int .u32 a1_5, .int .i64 a1_6]) (t := 24) ?hr ?_; (case hd => rfl); (case hg => rfl); (case hr => first | (go_simp; done) | (go_simp; rfl)); intro gb123 hg w5 hbox hb; have n0_ := Aside0.mk (blk_below (g := gb122) (o := .cells #[.bool a0_0, .bool a0_1, .bool a0_2, .bool a0_3, .int .u32 a0_4, .int .u32 a0_5, .int .i64 a0_6] 24 (0, 0)) (by (with_reducible repeat (first | refine blk_drewN ?_ _ | refine blk_drew ?_ | refine blk_alloc ?_ _)); exact BK122.out) hb); have n1_ := Aside0.mk (below_step (by repeat (first | (with_reducible first | exact HB.out | apply below_alloc | apply pw_below_drewN | apply below_drew1 | refine below_set ?_ GE122.out) | exact HB.out)) hb); have n2_ := Aside0.mk (hbox); have n3_ := Aside0.mk ((by rw [hg]; exact (below_size (by repeat (first | (with_reducible first | exact HB.out | apply below_alloc | apply pw_below_drewN | apply below_drew1 | refine below_set ?_ GE122.out) | exact HB.out))) : w.heap.size ≤ gb123)); have n4_ := Aside0.mk ((by rw [hg]; exact (below_size (by repeat (first | (with_reducible first | exact HB.out | apply below_alloc | apply pw_below_drewN | apply below_drew1 | refine below_set ?_ GE122.out) | exact HB.out))) : w.heap.size ≤ gb123)); have n5_ := Aside0.mk ((by rw [hg]; exact Nat.ne_of_lt (blk_lt (g := gb122) (o := .cells #[.bool a0_0, .bool a0_1, .bool a0_2, .bool a0_3, .int .u32 a0_4, .int .u32 a0_5, .int .i64 a0_6] 24 (0, 0)) (by (with_reducible repeat (first | refine blk_drewN ?_ _ | refine blk_drew ?_ | refine blk_alloc ?_ _)); exact BK122.out)) : gb122 ≠ gb123)); have n6_ := Aside0.mk ((by rw [hg]; exact Nat.ne_of_gt (blk_lt (g := gb122) (o := .cells #[.bool a0_0, .bool a0_1, .bool a0_2, .bool a0_3, .int .u32 a0_4, .int .u32 a0_5, .int .i64 a0_6] 24 (0, 0)) (by (with_reducible repeat (first | refine blk_drewN ?_ _ | refine blk_drew ?_ | refine blk_alloc ?_ _)); exact BK122.out)) : gb123 ≠ gb122)); clear BK122; clear HB; have BK122 := n0_; have HB := n1_; have BK123 := n2_; have GW123 := n3_; have GE123 := n4_; have NB122_123 := n5_; have NB123_122 := n6_; clear n0_ n1_ n2_ n3_ n4_ n5_ n6_; clear hb hbox hg))
  (try simp only [Act.put, List.setIfInBounds_toArray, List.set_cons_zero, List.set_cons_succ])
  go_cut [42] (fun v42 wc => ∃ (kq : Nat) (x42_2 : Bool), v42 = .bool x42_2 ∧ Aside0 (marlineref08_Fits.j0 kq x42_2 a0_0 a0_1 a0_2 a0_3 a0_4 a0_5 a0_6 a1_0 a1_1 a1_2 a1_3 a1_4 a1_5 a1_6 = some r) ∧ Aside0 (kq ≤ k) ∧ Aside0 (wc.heap[gb122]? = some (.cells #[.bool a0_0, .bool a0_1, .bool a0_2, .bool a0_3, .int .u32 a0_4, .int .u32 a0_5, .int .i64 a0_6] 24 (0, 0))) ∧ Aside0 (wc.heap[gb123]? = some (.cells #[.bool a1_0, .bool a1_1, .bool a1_2, .bool a1_3, .int .u32 a1_4, .int .u32 a1_5, .int .i64 a1_6] 24 (0, 0))) ∧ Aside0 (Below w.heap.size w wc))
  case first =>
    have H := HC3.out
    clear HC3
    by_cases c6 : (a0_0 != a1_0) = true
    · rw [if_pos c6] at H
      have c6b0 : (a0_0 != a1_0) = true := c6
      (try (have c6b1 : decide (a0_0 = a1_0) = false := by simpa using c6))
      (try (have c6b2 : (a0_0 == a1_0) = false := by simpa using c6))
      (try (have c6b3 : ¬ (a0_0 = a1_0) := by simpa using c6))
      clear c6
      (first | rw [c6b0] | (simp only [i64_w, i32_w]; rw [c6b0]) | skip)
      have H' := Aside0.mk H
      clear H
      have hnb7 := NB122_123.out
      have hnc7 := NB123_122.out
      have hcz8_0 : w5.cell? ⟨gb122, 0, none⟩ = some (.bool a0_0) := (blk_cell BK122.out 0).trans rfl
      have hcz8_1 : w5.cell? ⟨gb122, 1, none⟩ = some (.bool a0_1) := (blk_cell BK122.out 1).trans rfl
      have hcz8_2 : w5.cell? ⟨gb122, 2, none⟩ = some (.bool a0_2) := (blk_cell BK122.out 2).trans rfl
      have hcz8_3 : w5.cell? ⟨gb122, 3, none⟩ = some (.bool a0_3) := (blk_cell BK122.out 3).trans rfl
      have hcz8_4 : w5.cell? ⟨gb122, 4, none⟩ = some (.int .u32 a0_4) := (blk_cell BK122.out 4).trans rfl
      have hcz8_5 : w5.cell? ⟨gb122, 5, none⟩ = some (.int .u32 a0_5) := (blk_cell BK122.out 5).trans rfl
      have hcz8_6 : w5.cell? ⟨gb122, 6, none⟩ = some (.int .i64 a0_6) := (blk_cell BK122.out 6).trans rfl
      have hfz8_0 := blk_frozen BK122.out 0
      have hfz8_1 := blk_frozen BK122.out 1
      have hfz8_2 := blk_frozen BK122.out 2
      have hfz8_3 := blk_frozen BK122.out 3
      have hfz8_4 := blk_frozen BK122.out 4
      have hfz8_5 := blk_frozen BK122.out 5
      have hfz8_6 := blk_frozen BK122.out 6
      have hcz9_0 : w5.cell? ⟨gb123, 0, none⟩ = some (.bool a1_0) := (blk_cell BK123.out 0).trans rfl
      have hcz9_1 : w5.cell? ⟨gb123, 1, none⟩ = some (.bool a1_1) := (blk_cell BK123.out 1).trans rfl
      have hcz9_2 : w5.cell? ⟨gb123, 2, none⟩ = some (.bool a1_2) := (blk_cell BK123.out 2).trans rfl
      have hcz9_3 : w5.cell? ⟨gb123, 3, none⟩ = some (.bool a1_3) := (blk_cell BK123.out 3).trans rfl
      have hcz9_4 : w5.cell? ⟨gb123, 4, none⟩ = some (.int .u32 a1_4) := (blk_cell BK123.out 4).trans rfl
      have hcz9_5 : w5.cell? ⟨gb123, 5, none⟩ = some (.int .u32 a1_5) := (blk_cell BK123.out 5).trans rfl
      have hcz9_6 : w5.cell? ⟨gb123, 6, none⟩ = some (.int .i64 a1_6) := (blk_cell BK123.out 6).trans rfl
      have hfz9_0 := blk_frozen BK123.out 0
      have hfz9_1 := blk_frozen BK123.out 1
      have hfz9_2 := blk_frozen BK123.out 2
      have hfz9_3 := blk_frozen BK123.out 3
      have hfz9_4 := blk_frozen BK123.out 4
      have hfz9_5 := blk_frozen BK123.out 5
      have hfz9_6 := blk_frozen BK123.out 6
      go_wp2
      go_meet
      case rel => exact ⟨_, (true), (by first | rfl | (simp; done) | (simp [*]; done)), H', ⟨by first | omega | exact Nat.le_refl _⟩, ⟨by (with_reducible repeat (first | refine blk_drewN ?_ _ | refine blk_drew ?_ | refine blk_alloc ?_ _)); exact BK122.out⟩, ⟨by (with_reducible repeat (first | refine blk_drewN ?_ _ | refine blk_drew ?_ | refine blk_alloc ?_ _)); exact BK123.out⟩, ⟨by repeat (first | (with_reducible first | exact HB.out | apply below_alloc | apply pw_below_drewN | apply below_drew1 | refine below_set ?_ GE122.out | refine below_set ?_ GE123.out) | exact HB.out)⟩⟩
    · rw [if_neg c6] at H
      have c6b0 : (a0_0 != a1_0) = false := by simpa using c6
      (try (have c6b1 : decide (a0_0 = a1_0) = true := by simpa using c6))
      (try (have c6b2 : (a0_0 == a1_0) = true := by simpa using c6))
      clear c6
      (first | rw [c6b0] | (simp only [i64_w, i32_w]; rw [c6b0]) | skip)
      by_cases c10 : (a0_1 != a1_1) = true
      · rw [if_pos c10] at H
        have c10b0 : (a0_1 != a1_1) = true := c10
        (try (have c10b1 : decide (a0_1 = a1_1) = false := by simpa using c10))
        (try (have c10b2 : (a0_1 == a1_1) = false := by simpa using c10))
        (try (have c10b3 : ¬ (a0_1 = a1_1) := by simpa using c10))
        clear c10
        have H' := Aside0.mk H
        clear H
        have hnb11 := NB122_123.out
        have hnc11 := NB123_122.out
        have hcz12_0 : w5.cell? ⟨gb122, 0, none⟩ = some (.bool a0_0) := (blk_cell BK122.out 0).trans rfl
        have hcz12_1 : w5.cell? ⟨gb122, 1, none⟩ = some (.bool a0_1) := (blk_cell BK122.out 1).trans rfl
        have hcz12_2 : w5.cell? ⟨gb122, 2, none⟩ = some (.bool a0_2) := (blk_cell BK122.out 2).trans rfl
        have hcz12_3 : w5.cell? ⟨gb122, 3, none⟩ = some (.bool a0_3) := (blk_cell BK122.out 3).trans rfl
        have hcz12_4 : w5.cell? ⟨gb122, 4, none⟩ = some (.int .u32 a0_4) := (blk_cell BK122.out 4).trans rfl
        have hcz12_5 : w5.cell? ⟨gb122, 5, none⟩ = some (.int .u32 a0_5) := (blk_cell BK122.out 5).trans rfl
        have hcz12_6 : w5.cell? ⟨gb122, 6, none⟩ = some (.int .i64 a0_6) := (blk_cell BK122.out 6).trans rfl
        have hfz12_0 := blk_frozen BK122.out 0
        have hfz12_1 := blk_frozen BK122.out 1
        have hfz12_2 := blk_frozen BK122.out 2
        have hfz12_3 := blk_frozen BK122.out 3
        have hfz12_4 := blk_frozen BK122.out 4
        have hfz12_5 := blk_frozen BK122.out 5
        have hfz12_6 := blk_frozen BK122.out 6
        have hcz13_0 : w5.cell? ⟨gb123, 0, none⟩ = some (.bool a1_0) := (blk_cell BK123.out 0).trans rfl
        have hcz13_1 : w5.cell? ⟨gb123, 1, none⟩ = some (.bool a1_1) := (blk_cell BK123.out 1).trans rfl
        have hcz13_2 : w5.cell? ⟨gb123, 2, none⟩ = some (.bool a1_2) := (blk_cell BK123.out 2).trans rfl
        have hcz13_3 : w5.cell? ⟨gb123, 3, none⟩ = some (.bool a1_3) := (blk_cell BK123.out 3).trans rfl
        have hcz13_4 : w5.cell? ⟨gb123, 4, none⟩ = some (.int .u32 a1_4) := (blk_cell BK123.out 4).trans rfl
        have hcz13_5 : w5.cell? ⟨gb123, 5, none⟩ = some (.int .u32 a1_5) := (blk_cell BK123.out 5).trans rfl
        have hcz13_6 : w5.cell? ⟨gb123, 6, none⟩ = some (.int .i64 a1_6) := (blk_cell BK123.out 6).trans rfl
        have hfz13_0 := blk_frozen BK123.out 0
        have hfz13_1 := blk_frozen BK123.out 1
        have hfz13_2 := blk_frozen BK123.out 2
        have hfz13_3 := blk_frozen BK123.out 3
        have hfz13_4 := blk_frozen BK123.out 4
        have hfz13_5 := blk_frozen BK123.out 5
        have hfz13_6 := blk_frozen BK123.out 6
        go_wp2
        go_meet
        case rel => exact ⟨_, (true), (by first | rfl | (simp; done) | (simp [*]; done)), H', ⟨by first | omega | exact Nat.le_refl _⟩, ⟨by (with_reducible repeat (first | refine blk_drewN ?_ _ | refine blk_drew ?_ | refine blk_alloc ?_ _)); exact BK122.out⟩, ⟨by (with_reducible repeat (first | refine blk_drewN ?_ _ | refine blk_drew ?_ | refine blk_alloc ?_ _)); exact BK123.out⟩, ⟨by repeat (first | (with_reducible first | exact HB.out | apply below_alloc | apply pw_below_drewN | apply below_drew1 | refine below_set ?_ GE122.out | refine below_set ?_ GE123.out) | exact HB.out)⟩⟩
      · rw [if_neg c10] at H
        have c10b0 : (a0_1 != a1_1) = false := by simpa using c10
        (try (have c10b1 : decide (a0_1 = a1_1) = true := by simpa using c10))
        (try (have c10b2 : (a0_1 == a1_1) = true := by simpa using c10))
        clear c10
        by_cases c14 : a0_2 = true
        · subst c14
          have H1 : (if a1_2 = true then (if a0_3 = true then (if a1_3 = true then (marlineref08_Fits.j0 k (decide (a0_6 > a1_6)) a0_0 a0_1 true a0_3 a0_4 a0_5 a0_6 a1_0 a1_1 a1_2 a1_3 a1_4 a1_5 a1_6) else (marlineref08_Fits.j0 k true a0_0 a0_1 true a0_3 a0_4 a0_5 a0_6 a1_0 a1_1 a1_2 a1_3 a1_4 a1_5 a1_6)) else (marlineref08_Fits.j0 k (decide (a0_6 > a1_6)) a0_0 a0_1 true a0_3 a0_4 a0_5 a0_6 a1_0 a1_1 a1_2 a1_3 a1_4 a1_5 a1_6)) else (marlineref08_Fits.j0 k true a0_0 a0_1 true a0_3 a0_4 a0_5 a0_6 a1_0 a1_1 a1_2 a1_3 a1_4 a1_5 a1_6)) = some r := by rw [if_pos rfl] at H; exact H
          clear H
          have H := H1
          clear H1
          by_cases c15 : a1_2 = true
          · subst c15
            have H1 : (if a0_3 = true then (if a1_3 = true then (marlineref08_Fits.j0 k (decide (a0_6 > a1_6)) a0_0 a0_1 true a0_3 a0_4 a0_5 a0_6 a1_0 a1_1 true a1_3 a1_4 a1_5 a1_6) else (marlineref08_Fits.j0 k true a0_0 a0_1 true a0_3 a0_4 a0_5 a0_6 a1_0 a1_1 true a1_3 a1_4 a1_5 a1_6)) else (marlineref08_Fits.j0 k (decide (a0_6 > a1_6)) a0_0 a0_1 true a0_3 a0_4 a0_5 a0_6 a1_0 a1_1 true a1_3 a1_4 a1_5 a1_6)) = some r := by rw [if_pos rfl] at H; exact H
            clear H
            have H := H1
            clear H1
            by_cases c16 : a0_3 = true
            · subst c16
              have H1 : (if a1_3 = true then (marlineref08_Fits.j0 k (decide (a0_6 > a1_6)) a0_0 a0_1 true true a0_4 a0_5 a0_6 a1_0 a1_1 true a1_3 a1_4 a1_5 a1_6) else (marlineref08_Fits.j0 k true a0_0 a0_1 true true a0_4 a0_5 a0_6 a1_0 a1_1 true a1_3 a1_4 a1_5 a1_6)) = some r := by rw [if_pos rfl] at H; exact H
              clear H
              have H := H1
              clear H1
              by_cases c17 : a1_3 = true
              · subst c17
                have H1 : (marlineref08_Fits.j0 k (decide (a0_6 > a1_6)) a0_0 a0_1 true true a0_4 a0_5 a0_6 a1_0 a1_1 true true a1_4 a1_5 a1_6) = some r := by rw [if_pos rfl] at H; exact H
                clear H
                have H := H1
                clear H1
                have H' := Aside0.mk H
                clear H
                have hnb18 := NB122_123.out
                have hnc18 := NB123_122.out
                have hcz19_0 : w5.cell? ⟨gb122, 0, none⟩ = some (.bool a0_0) := (blk_cell BK122.out 0).trans rfl
                have hcz19_1 : w5.cell? ⟨gb122, 1, none⟩ = some (.bool a0_1) := (blk_cell BK122.out 1).trans rfl
                have hcz19_2 : w5.cell? ⟨gb122, 2, none⟩ = some (.bool true) := (blk_cell BK122.out 2).trans rfl
                have hcz19_3 : w5.cell? ⟨gb122, 3, none⟩ = some (.bool true) := (blk_cell BK122.out 3).trans rfl
                have hcz19_4 : w5.cell? ⟨gb122, 4, none⟩ = some (.int .u32 a0_4) := (blk_cell BK122.out 4).trans rfl
                have hcz19_5 : w5.cell? ⟨gb122, 5, none⟩ = some (.int .u32 a0_5) := (blk_cell BK122.out 5).trans rfl
                have hcz19_6 : w5.cell? ⟨gb122, 6, none⟩ = some (.int .i64 a0_6) := (blk_cell BK122.out 6).trans rfl
                have hfz19_0 := blk_frozen BK122.out 0
                have hfz19_1 := blk_frozen BK122.out 1
                have hfz19_2 := blk_frozen BK122.out 2
                have hfz19_3 := blk_frozen BK122.out 3
                have hfz19_4 := blk_frozen BK122.out 4
                have hfz19_5 := blk_frozen BK122.out 5
                have hfz19_6 := blk_frozen BK122.out 6
                have hcz20_0 : w5.cell? ⟨gb123, 0, none⟩ = some (.bool a1_0) := (blk_cell BK123.out 0).trans rfl
                have hcz20_1 : w5.cell? ⟨gb123, 1, none⟩ = some (.bool a1_1) := (blk_cell BK123.out 1).trans rfl
                have hcz20_2 : w5.cell? ⟨gb123, 2, none⟩ = some (.bool true) := (blk_cell BK123.out 2).trans rfl
                have hcz20_3 : w5.cell? ⟨gb123, 3, none⟩ = some (.bool true) := (blk_cell BK123.out 3).trans rfl
                have hcz20_4 : w5.cell? ⟨gb123, 4, none⟩ = some (.int .u32 a1_4) := (blk_cell BK123.out 4).trans rfl
                have hcz20_5 : w5.cell? ⟨gb123, 5, none⟩ = some (.int .u32 a1_5) := (blk_cell BK123.out 5).trans rfl
                have hcz20_6 : w5.cell? ⟨gb123, 6, none⟩ = some (.int .i64 a1_6) := (blk_cell BK123.out 6).trans rfl
                have hfz20_0 := blk_frozen BK123.out 0
                have hfz20_1 := blk_frozen BK123.out 1
                have hfz20_2 := blk_frozen BK123.out 2
                have hfz20_3 := blk_frozen BK123.out 3
                have hfz20_4 := blk_frozen BK123.out 4
                have hfz20_5 := blk_frozen BK123.out 5
                have hfz20_6 := blk_frozen BK123.out 6
                go_wp2
                go_meet
                case rel => exact ⟨_, (decide (a0_6 > a1_6)), (by first | rfl | (simp; done) | (simp [*]; done)), H', ⟨by first | omega | exact Nat.le_refl _⟩, ⟨by (with_reducible repeat (first | refine blk_drewN ?_ _ | refine blk_drew ?_ | refine blk_alloc ?_ _)); exact BK122.out⟩, ⟨by (with_reducible repeat (first | refine blk_drewN ?_ _ | refine blk_drew ?_ | refine blk_alloc ?_ _)); exact BK123.out⟩, ⟨by repeat (first | (with_reducible first | exact HB.out | apply below_alloc | apply pw_below_drewN | apply below_drew1 | refine below_set ?_ GE122.out | refine below_set ?_ GE123.out) | exact HB.out)⟩⟩
              · replace c17 := Bool.eq_false_iff.mpr c17
                subst c17
                have H1 : (marlineref08_Fits.j0 k true a0_0 a0_1 true true a0_4 a0_5 a0_6 a1_0 a1_1 true false a1_4 a1_5 a1_6) = some r := by rw [if_neg (show ¬ (false = true) by decide)] at H; exact H
                clear H
                have H := H1
                clear H1
                have H' := Aside0.mk H
                clear H
                have hnb21 := NB122_123.out
                have hnc21 := NB123_122.out
                have hcz22_0 : w5.cell? ⟨gb122, 0, none⟩ = some (.bool a0_0) := (blk_cell BK122.out 0).trans rfl
                have hcz22_1 : w5.cell? ⟨gb122, 1, none⟩ = some (.bool a0_1) := (blk_cell BK122.out 1).trans rfl
                have hcz22_2 : w5.cell? ⟨gb122, 2, none⟩ = some (.bool true) := (blk_cell BK122.out 2).trans rfl
                have hcz22_3 : w5.cell? ⟨gb122, 3, none⟩ = some (.bool true) := (blk_cell BK122.out 3).trans rfl
                have hcz22_4 : w5.cell? ⟨gb122, 4, none⟩ = some (.int .u32 a0_4) := (blk_cell BK122.out 4).trans rfl
                have hcz22_5 : w5.cell? ⟨gb122, 5, none⟩ = some (.int .u32 a0_5) := (blk_cell BK122.out 5).trans rfl
                have hcz22_6 : w5.cell? ⟨gb122, 6, none⟩ = some (.int .i64 a0_6) := (blk_cell BK122.out 6).trans rfl
                have hfz22_0 := blk_frozen BK122.out 0
                have hfz22_1 := blk_frozen BK122.out 1
                have hfz22_2 := blk_frozen BK122.out 2
                have hfz22_3 := blk_frozen BK122.out 3
                have hfz22_4 := blk_frozen BK122.out 4
                have hfz22_5 := blk_frozen BK122.out 5
                have hfz22_6 := blk_frozen BK122.out 6
                have hcz23_0 : w5.cell? ⟨gb123, 0, none⟩ = some (.bool a1_0) := (blk_cell BK123.out 0).trans rfl
                have hcz23_1 : w5.cell? ⟨gb123, 1, none⟩ = some (.bool a1_1) := (blk_cell BK123.out 1).trans rfl
                have hcz23_2 : w5.cell? ⟨gb123, 2, none⟩ = some (.bool true) := (blk_cell BK123.out 2).trans rfl
                have hcz23_3 : w5.cell? ⟨gb123, 3, none⟩ = some (.bool false) := (blk_cell BK123.out 3).trans rfl
                have hcz23_4 : w5.cell? ⟨gb123, 4, none⟩ = some (.int .u32 a1_4) := (blk_cell BK123.out 4).trans rfl
                have hcz23_5 : w5.cell? ⟨gb123, 5, none⟩ = some (.int .u32 a1_5) := (blk_cell BK123.out 5).trans rfl
                have hcz23_6 : w5.cell? ⟨gb123, 6, none⟩ = some (.int .i64 a1_6) := (blk_cell BK123.out 6).trans rfl
                have hfz23_0 := blk_frozen BK123.out 0
                have hfz23_1 := blk_frozen BK123.out 1
                have hfz23_2 := blk_frozen BK123.out 2
                have hfz23_3 := blk_frozen BK123.out 3
                have hfz23_4 := blk_frozen BK123.out 4
                have hfz23_5 := blk_frozen BK123.out 5
                have hfz23_6 := blk_frozen BK123.out 6
                go_wp2
                go_meet
                case rel => exact ⟨_, (true), (by first | rfl | (simp; done) | (simp [*]; done)), H', ⟨by first | omega | exact Nat.le_refl _⟩, ⟨by (with_reducible repeat (first | refine blk_drewN ?_ _ | refine blk_drew ?_ | refine blk_alloc ?_ _)); exact BK122.out⟩, ⟨by (with_reducible repeat (first | refine blk_drewN ?_ _ | refine blk_drew ?_ | refine blk_alloc ?_ _)); exact BK123.out⟩, ⟨by repeat (first | (with_reducible first | exact HB.out | apply below_alloc | apply pw_below_drewN | apply below_drew1 | refine below_set ?_ GE122.out | refine below_set ?_ GE123.out) | exact HB.out)⟩⟩
            · replace c16 := Bool.eq_false_iff.mpr c16
              subst c16
              have H1 : (marlineref08_Fits.j0 k (decide (a0_6 > a1_6)) a0_0 a0_1 true false a0_4 a0_5 a0_6 a1_0 a1_1 true a1_3 a1_4 a1_5 a1_6) = some r := by rw [if_neg (show ¬ (false = true) by decide)] at H; exact H
              clear H
              have H := H1
              clear H1
              have H' := Aside0.mk H
              clear H
              have hnb24 := NB122_123.out
              have hnc24 := NB123_122.out
              have hcz25_0 : w5.cell? ⟨gb122, 0, none⟩ = some (.bool a0_0) := (blk_cell BK122.out 0).trans rfl
              have hcz25_1 : w5.cell? ⟨gb122, 1, none⟩ = some (.bool a0_1) := (blk_cell BK122.out 1).trans rfl
              have hcz25_2 : w5.cell? ⟨gb122, 2, none⟩ = some (.bool true) := (blk_cell BK122.out 2).trans rfl
              have hcz25_3 : w5.cell? ⟨gb122, 3, none⟩ = some (.bool false) := (blk_cell BK122.out 3).trans rfl
              have hcz25_4 : w5.cell? ⟨gb122, 4, none⟩ = some (.int .u32 a0_4) := (blk_cell BK122.out 4).trans rfl
              have hcz25_5 : w5.cell? ⟨gb122, 5, none⟩ = some (.int .u32 a0_5) := (blk_cell BK122.out 5).trans rfl
              have hcz25_6 : w5.cell? ⟨gb122, 6, none⟩ = some (.int .i64 a0_6) := (blk_cell BK122.out 6).trans rfl
              have hfz25_0 := blk_frozen BK122.out 0
              have hfz25_1 := blk_frozen BK122.out 1
              have hfz25_2 := blk_frozen BK122.out 2
              have hfz25_3 := blk_frozen BK122.out 3
              have hfz25_4 := blk_frozen BK122.out 4
              have hfz25_5 := blk_frozen BK122.out 5
              have hfz25_6 := blk_frozen BK122.out 6
              have hcz26_0 : w5.cell? ⟨gb123, 0, none⟩ = some (.bool a1_0) := (blk_cell BK123.out 0).trans rfl
              have hcz26_1 : w5.cell? ⟨gb123, 1, none⟩ = some (.bool a1_1) := (blk_cell BK123.out 1).trans rfl
              have hcz26_2 : w5.cell? ⟨gb123, 2, none⟩ = some (.bool true) := (blk_cell BK123.out 2).trans rfl
              have hcz26_3 : w5.cell? ⟨gb123, 3, none⟩ = some (.bool a1_3) := (blk_cell BK123.out 3).trans rfl
              have hcz26_4 : w5.cell? ⟨gb123, 4, none⟩ = some (.int .u32 a1_4) := (blk_cell BK123.out 4).trans rfl
              have hcz26_5 : w5.cell? ⟨gb123, 5, none⟩ = some (.int .u32 a1_5) := (blk_cell BK123.out 5).trans rfl
              have hcz26_6 : w5.cell? ⟨gb123, 6, none⟩ = some (.int .i64 a1_6) := (blk_cell BK123.out 6).trans rfl
              have hfz26_0 := blk_frozen BK123.out 0
              have hfz26_1 := blk_frozen BK123.out 1
              have hfz26_2 := blk_frozen BK123.out 2
              have hfz26_3 := blk_frozen BK123.out 3
              have hfz26_4 := blk_frozen BK123.out 4
              have hfz26_5 := blk_frozen BK123.out 5
              have hfz26_6 := blk_frozen BK123.out 6
              go_wp2
              go_meet
              case rel => exact ⟨_, (decide (a0_6 > a1_6)), (by first | rfl | (simp; done) | (simp [*]; done)), H', ⟨by first | omega | exact Nat.le_refl _⟩, ⟨by (with_reducible repeat (first | refine blk_drewN ?_ _ | refine blk_drew ?_ | refine blk_alloc ?_ _)); exact BK122.out⟩, ⟨by (with_reducible repeat (first | refine blk_drewN ?_ _ | refine blk_drew ?_ | refine blk_alloc ?_ _)); exact BK123.out⟩, ⟨by repeat (first | (with_reducible first | exact HB.out | apply below_alloc | apply pw_below_drewN | apply below_drew1 | refine below_set ?_ GE122.out | refine below_set ?_ GE123.out) | exact HB.out)⟩⟩
          · replace c15 := Bool.eq_false_iff.mpr c15
            subst c15
            have H1 : (marlineref08_Fits.j0 k true a0_0 a0_1 true a0_3 a0_4 a0_5 a0_6 a1_0 a1_1 false a1_3 a1_4 a1_5 a1_6) = some r := by rw [if_neg (show ¬ (false = true) by decide)] at H; exact H
            clear H
            have H := H1
            clear H1
            have H' := Aside0.mk H
            clear H
            have hnb27 := NB122_123.out
            have hnc27 := NB123_122.out
            have hcz28_0 : w5.cell? ⟨gb122, 0, none⟩ = some (.bool a0_0) := (blk_cell BK122.out 0).trans rfl
            have hcz28_1 : w5.cell? ⟨gb122, 1, none⟩ = some (.bool a0_1) := (blk_cell BK122.out 1).trans rfl
            have hcz28_2 : w5.cell? ⟨gb122, 2, none⟩ = some (.bool true) := (blk_cell BK122.out 2).trans rfl
            have hcz28_3 : w5.cell? ⟨gb122, 3, none⟩ = some (.bool a0_3) := (blk_cell BK122.out 3).trans rfl
            have hcz28_4 : w5.cell? ⟨gb122, 4, none⟩ = some (.int .u32 a0_4) := (blk_cell BK122.out 4).trans rfl
            have hcz28_5 : w5.cell? ⟨gb122, 5, none⟩ = some (.int .u32 a0_5) := (blk_cell BK122.out 5).trans rfl
            have hcz28_6 : w5.cell? ⟨gb122, 6, none⟩ = some (.int .i64 a0_6) := (blk_cell BK122.out 6).trans rfl
            have hfz28_0 := blk_frozen BK122.out 0
            have hfz28_1 := blk_frozen BK122.out 1
            have hfz28_2 := blk_frozen BK122.out 2
            have hfz28_3 := blk_frozen BK122.out 3
            have hfz28_4 := blk_frozen BK122.out 4
            have hfz28_5 := blk_frozen BK122.out 5
            have hfz28_6 := blk_frozen BK122.out 6
            have hcz29_0 : w5.cell? ⟨gb123, 0, none⟩ = some (.bool a1_0) := (blk_cell BK123.out 0).trans rfl
            have hcz29_1 : w5.cell? ⟨gb123, 1, none⟩ = some (.bool a1_1) := (blk_cell BK123.out 1).trans rfl
            have hcz29_2 : w5.cell? ⟨gb123, 2, none⟩ = some (.bool false) := (blk_cell BK123.out 2).trans rfl
            have hcz29_3 : w5.cell? ⟨gb123, 3, none⟩ = some (.bool a1_3) := (blk_cell BK123.out 3).trans rfl
            have hcz29_4 : w5.cell? ⟨gb123, 4, none⟩ = some (.int .u32 a1_4) := (blk_cell BK123.out 4).trans rfl
            have hcz29_5 : w5.cell? ⟨gb123, 5, none⟩ = some (.int .u32 a1_5) := (blk_cell BK123.out 5).trans rfl
            have hcz29_6 : w5.cell? ⟨gb123, 6, none⟩ = some (.int .i64 a1_6) := (blk_cell BK123.out 6).trans rfl
            have hfz29_0 := blk_frozen BK123.out 0
            have hfz29_1 := blk_frozen BK123.out 1
            have hfz29_2 := blk_frozen BK123.out 2
            have hfz29_3 := blk_frozen BK123.out 3
            have hfz29_4 := blk_frozen BK123.out 4
            have hfz29_5 := blk_frozen BK123.out 5
            have hfz29_6 := blk_frozen BK123.out 6
            go_wp2
            go_meet
            case rel => exact ⟨_, (true), (by first | rfl | (simp; done) | (simp [*]; done)), H', ⟨by first | omega | exact Nat.le_refl _⟩, ⟨by (with_reducible repeat (first | refine blk_drewN ?_ _ | refine blk_drew ?_ | refine blk_alloc ?_ _)); exact BK122.out⟩, ⟨by (with_reducible repeat (first | refine blk_drewN ?_ _ | refine blk_drew ?_ | refine blk_alloc ?_ _)); exact BK123.out⟩, ⟨by repeat (first | (with_reducible first | exact HB.out | apply below_alloc | apply pw_below_drewN | apply below_drew1 | refine below_set ?_ GE122.out | refine below_set ?_ GE123.out) | exact HB.out)⟩⟩
        · replace c14 := Bool.eq_false_iff.mpr c14
          subst c14
          have H1 : (if a0_3 = true then (if a1_3 = true then (marlineref08_Fits.j0 k (decide (a0_6 > a1_6)) a0_0 a0_1 false a0_3 a0_4 a0_5 a0_6 a1_0 a1_1 a1_2 a1_3 a1_4 a1_5 a1_6) else (marlineref08_Fits.j0 k true a0_0 a0_1 false a0_3 a0_4 a0_5 a0_6 a1_0 a1_1 a1_2 a1_3 a1_4 a1_5 a1_6)) else (marlineref08_Fits.j0 k (decide (a0_6 > a1_6)) a0_0 a0_1 false a0_3 a0_4 a0_5 a0_6 a1_0 a1_1 a1_2 a1_3 a1_4 a1_5 a1_6)) = some r := by rw [if_neg (show ¬ (false = true) by decide)] at H; exact H
          clear H
          have H := H1
          clear H1
          by_cases c30 : a0_3 = true
          · subst c30
            have H1 : (if a1_3 = true then (marlineref08_Fits.j0 k (decide (a0_6 > a1_6)) a0_0 a0_1 false true a0_4 a0_5 a0_6 a1_0 a1_1 a1_2 a1_3 a1_4 a1_5 a1_6) else (marlineref08_Fits.j0 k true a0_0 a0_1 false true a0_4 a0_5 a0_6 a1_0 a1_1 a1_2 a1_3 a1_4 a1_5 a1_6)) = some r := by rw [if_pos rfl] at H; exact H
            clear H
            have H := H1
            clear H1
            by_cases c31 : a1_3 = true
            · subst c31
              have H1 : (marlineref08_Fits.j0 k (decide (a0_6 > a1_6)) a0_0 a0_1 false true a0_4 a0_5 a0_6 a1_0 a1_1 a1_2 true a1_4 a1_5 a1_6) = some r := by rw [if_pos rfl] at H; exact H
              clear H
              have H := H1
              clear H1
              have H' := Aside0.mk H
              clear H
              have hnb32 := NB122_123.out
              have hnc32 := NB123_122.out
              have hcz33_0 : w5.cell? ⟨gb122, 0, none⟩ = some (.bool a0_0) := (blk_cell BK122.out 0).trans rfl
              have hcz33_1 : w5.cell? ⟨gb122, 1, none⟩ = some (.bool a0_1) := (blk_cell BK122.out 1).trans rfl
              have hcz33_2 : w5.cell? ⟨gb122, 2, none⟩ = some (.bool false) := (blk_cell BK122.out 2).trans rfl
              have hcz33_3 : w5.cell? ⟨gb122, 3, none⟩ = some (.bool true) := (blk_cell BK122.out 3).trans rfl
              have hcz33_4 : w5.cell? ⟨gb122, 4, none⟩ = some (.int .u32 a0_4) := (blk_cell BK122.out 4).trans rfl
              have hcz33_5 : w5.cell? ⟨gb122, 5, none⟩ = some (.int .u32 a0_5) := (blk_cell BK122.out 5).trans rfl
              have hcz33_6 : w5.cell? ⟨gb122, 6, none⟩ = some (.int .i64 a0_6) := (blk_cell BK122.out 6).trans rfl
              have hfz33_0 := blk_frozen BK122.out 0
              have hfz33_1 := blk_frozen BK122.out 1
              have hfz33_2 := blk_frozen BK122.out 2
              have hfz33_3 := blk_frozen BK122.out 3
              have hfz33_4 := blk_frozen BK122.out 4
              have hfz33_5 := blk_frozen BK122.out 5
              have hfz33_6 := blk_frozen BK122.out 6
              have hcz34_0 : w5.cell? ⟨gb123, 0, none⟩ = some (.bool a1_0) := (blk_cell BK123.out 0).trans rfl
              have hcz34_1 : w5.cell? ⟨gb123, 1, none⟩ = some (.bool a1_1) := (blk_cell BK123.out 1).trans rfl
              have hcz34_2 : w5.cell? ⟨gb123, 2, none⟩ = some (.bool a1_2) := (blk_cell BK123.out 2).trans rfl
              have hcz34_3 : w5.cell? ⟨gb123, 3, none⟩ = some (.bool true) := (blk_cell BK123.out 3).trans rfl
              have hcz34_4 : w5.cell? ⟨gb123, 4, none⟩ = some (.int .u32 a1_4) := (blk_cell BK123.out 4).trans rfl
              have hcz34_5 : w5.cell? ⟨gb123, 5, none⟩ = some (.int .u32 a1_5) := (blk_cell BK123.out 5).trans rfl
              have hcz34_6 : w5.cell? ⟨gb123, 6, none⟩ = some (.int .i64 a1_6) := (blk_cell BK123.out 6).trans rfl
              have hfz34_0 := blk_frozen BK123.out 0
              have hfz34_1 := blk_frozen BK123.out 1
              have hfz34_2 := blk_frozen BK123.out 2
              have hfz34_3 := blk_frozen BK123.out 3
              have hfz34_4 := blk_frozen BK123.out 4
              have hfz34_5 := blk_frozen BK123.out 5
              have hfz34_6 := blk_frozen BK123.out 6
              go_wp2
              go_meet
              case rel => exact ⟨_, (decide (a0_6 > a1_6)), (by first | rfl | (simp; done) | (simp [*]; done)), H', ⟨by first | omega | exact Nat.le_refl _⟩, ⟨by (with_reducible repeat (first | refine blk_drewN ?_ _ | refine blk_drew ?_ | refine blk_alloc ?_ _)); exact BK122.out⟩, ⟨by (with_reducible repeat (first | refine blk_drewN ?_ _ | refine blk_drew ?_ | refine blk_alloc ?_ _)); exact BK123.out⟩, ⟨by repeat (first | (with_reducible first | exact HB.out | apply below_alloc | apply pw_below_drewN | apply below_drew1 | refine below_set ?_ GE122.out | refine below_set ?_ GE123.out) | exact HB.out)⟩⟩
            · replace c31 := Bool.eq_false_iff.mpr c31
              subst c31
              have H1 : (marlineref08_Fits.j0 k true a0_0 a0_1 false true a0_4 a0_5 a0_6 a1_0 a1_1 a1_2 false a1_4 a1_5 a1_6) = some r := by rw [if_neg (show ¬ (false = true) by decide)] at H; exact H
              clear H
              have H := H1
              clear H1
              have H' := Aside0.mk H
              clear H
              have hnb35 := NB122_123.out
              have hnc35 := NB123_122.out
              have hcz36_0 : w5.cell? ⟨gb122, 0, none⟩ = some (.bool a0_0) := (blk_cell BK122.out 0).trans rfl
              have hcz36_1 : w5.cell? ⟨gb122, 1, none⟩ = some (.bool a0_1) := (blk_cell BK122.out 1).trans rfl
              have hcz36_2 : w5.cell? ⟨gb122, 2, none⟩ = some (.bool false) := (blk_cell BK122.out 2).trans rfl
              have hcz36_3 : w5.cell? ⟨gb122, 3, none⟩ = some (.bool true) := (blk_cell BK122.out 3).trans rfl
              have hcz36_4 : w5.cell? ⟨gb122, 4, none⟩ = some (.int .u32 a0_4) := (blk_cell BK122.out 4).trans rfl
              have hcz36_5 : w5.cell? ⟨gb122, 5, none⟩ = some (.int .u32 a0_5) := (blk_cell BK122.out 5).trans rfl
              have hcz36_6 : w5.cell? ⟨gb122, 6, none⟩ = some (.int .i64 a0_6) := (blk_cell BK122.out 6).trans rfl
              have hfz36_0 := blk_frozen BK122.out 0
              have hfz36_1 := blk_frozen BK122.out 1
              have hfz36_2 := blk_frozen BK122.out 2
              have hfz36_3 := blk_frozen BK122.out 3
              have hfz36_4 := blk_frozen BK122.out 4
              have hfz36_5 := blk_frozen BK122.out 5
              have hfz36_6 := blk_frozen BK122.out 6
              have hcz37_0 : w5.cell? ⟨gb123, 0, none⟩ = some (.bool a1_0) := (blk_cell BK123.out 0).trans rfl
              have hcz37_1 : w5.cell? ⟨gb123, 1, none⟩ = some (.bool a1_1) := (blk_cell BK123.out 1).trans rfl
              have hcz37_2 : w5.cell? ⟨gb123, 2, none⟩ = some (.bool a1_2) := (blk_cell BK123.out 2).trans rfl
              have hcz37_3 : w5.cell? ⟨gb123, 3, none⟩ = some (.bool false) := (blk_cell BK123.out 3).trans rfl
              have hcz37_4 : w5.cell? ⟨gb123, 4, none⟩ = some (.int .u32 a1_4) := (blk_cell BK123.out 4).trans rfl
              have hcz37_5 : w5.cell? ⟨gb123, 5, none⟩ = some (.int .u32 a1_5) := (blk_cell BK123.out 5).trans rfl
              have hcz37_6 : w5.cell? ⟨gb123, 6, none⟩ = some (.int .i64 a1_6) := (blk_cell BK123.out 6).trans rfl
              have hfz37_0 := blk_frozen BK123.out 0
              have hfz37_1 := blk_frozen BK123.out 1
              have hfz37_2 := blk_frozen BK123.out 2
              have hfz37_3 := blk_frozen BK123.out 3
              have hfz37_4 := blk_frozen BK123.out 4
              have hfz37_5 := blk_frozen BK123.out 5
              have hfz37_6 := blk_frozen BK123.out 6
              go_wp2
              go_meet
              case rel => exact ⟨_, (true), (by first | rfl | (simp; done) | (simp [*]; done)), H', ⟨by first | omega | exact Nat.le_refl _⟩, ⟨by (with_reducible repeat (first | refine blk_drewN ?_ _ | refine blk_drew ?_ | refine blk_alloc ?_ _)); exact BK122.out⟩, ⟨by (with_reducible repeat (first | refine blk_drewN ?_ _ | refine blk_drew ?_ | refine blk_alloc ?_ _)); exact BK123.out⟩, ⟨by repeat (first | (with_reducible first | exact HB.out | apply below_alloc | apply pw_below_drewN | apply below_drew1 | refine below_set ?_ GE122.out | refine below_set ?_ GE123.out) | exact HB.out)⟩⟩
          · replace c30 := Bool.eq_false_iff.mpr c30
            subst c30
            have H1 : (marlineref08_Fits.j0 k (decide (a0_6 > a1_6)) a0_0 a0_1 false false a0_4 a0_5 a0_6 a1_0 a1_1 a1_2 a1_3 a1_4 a1_5 a1_6) = some r := by rw [if_neg (show ¬ (false = true) by decide)] at H; exact H
            clear H
            have H := H1
            clear H1
            have H' := Aside0.mk H
            clear H
            have hnb38 := NB122_123.out
            have hnc38 := NB123_122.out
            have hcz39_0 : w5.cell? ⟨gb122, 0, none⟩ = some (.bool a0_0) := (blk_cell BK122.out 0).trans rfl
            have hcz39_1 : w5.cell? ⟨gb122, 1, none⟩ = some (.bool a0_1) := (blk_cell BK122.out 1).trans rfl
            have hcz39_2 : w5.cell? ⟨gb122, 2, none⟩ = some (.bool false) := (blk_cell BK122.out 2).trans rfl
            have hcz39_3 : w5.cell? ⟨gb122, 3, none⟩ = some (.bool false) := (blk_cell BK122.out 3).trans rfl
            have hcz39_4 : w5.cell? ⟨gb122, 4, none⟩ = some (.int .u32 a0_4) := (blk_cell BK122.out 4).trans rfl
            have hcz39_5 : w5.cell? ⟨gb122, 5, none⟩ = some (.int .u32 a0_5) := (blk_cell BK122.out 5).trans rfl
            have hcz39_6 : w5.cell? ⟨gb122, 6, none⟩ = some (.int .i64 a0_6) := (blk_cell BK122.out 6).trans rfl
            have hfz39_0 := blk_frozen BK122.out 0
            have hfz39_1 := blk_frozen BK122.out 1
            have hfz39_2 := blk_frozen BK122.out 2
            have hfz39_3 := blk_frozen BK122.out 3
            have hfz39_4 := blk_frozen BK122.out 4
            have hfz39_5 := blk_frozen BK122.out 5
            have hfz39_6 := blk_frozen BK122.out 6
            have hcz40_0 : w5.cell? ⟨gb123, 0, none⟩ = some (.bool a1_0) := (blk_cell BK123.out 0).trans rfl
            have hcz40_1 : w5.cell? ⟨gb123, 1, none⟩ = some (.bool a1_1) := (blk_cell BK123.out 1).trans rfl
            have hcz40_2 : w5.cell? ⟨gb123, 2, none⟩ = some (.bool a1_2) := (blk_cell BK123.out 2).trans rfl
            have hcz40_3 : w5.cell? ⟨gb123, 3, none⟩ = some (.bool a1_3) := (blk_cell BK123.out 3).trans rfl
            have hcz40_4 : w5.cell? ⟨gb123, 4, none⟩ = some (.int .u32 a1_4) := (blk_cell BK123.out 4).trans rfl
            have hcz40_5 : w5.cell? ⟨gb123, 5, none⟩ = some (.int .u32 a1_5) := (blk_cell BK123.out 5).trans rfl
            have hcz40_6 : w5.cell? ⟨gb123, 6, none⟩ = some (.int .i64 a1_6) := (blk_cell BK123.out 6).trans rfl
            have hfz40_0 := blk_frozen BK123.out 0
            have hfz40_1 := blk_frozen BK123.out 1
            have hfz40_2 := blk_frozen BK123.out 2
            have hfz40_3 := blk_frozen BK123.out 3
            have hfz40_4 := blk_frozen BK123.out 4
            have hfz40_5 := blk_frozen BK123.out 5
            have hfz40_6 := blk_frozen BK123.out 6
            go_wp2
            go_meet
            case rel => exact ⟨_, (decide (a0_6 > a1_6)), (by first | rfl | (simp; done) | (simp [*]; done)), H', ⟨by first | omega | exact Nat.le_refl _⟩, ⟨by (with_reducible repeat (first | refine blk_drewN ?_ _ | refine blk_drew ?_ | refine blk_alloc ?_ _)); exact BK122.out⟩, ⟨by (with_reducible repeat (first | refine blk_drewN ?_ _ | refine blk_drew ?_ | refine blk_alloc ?_ _)); exact BK123.out⟩, ⟨by repeat (first | (with_reducible first | exact HB.out | apply below_alloc | apply pw_below_drewN | apply below_drew1 | refine below_set ?_ GE122.out | refine below_set ?_ GE123.out) | exact HB.out)⟩⟩
  case rest =>
    clear HC3
    try clear c1
    try clear c2
    try clear p2
    try clear c3
    try clear c6
    try clear c6b0
    try clear c6b1
    try clear c6b2
    try clear c7
    try clear c10
    try clear c10b0
    try clear c10b1
    try clear c10b2
    try clear c11
    try clear c14
    try clear c15
    try clear c16
    try clear c17
    try clear c18
    try clear c21
    try clear c23
    try clear c24
    try clear c27
    try clear c30
    try clear c31
    try clear c32
    try clear c35
    try clear c38
    try clear hcz12_0
    try clear hcz12_1
    try clear hcz12_2
    try clear hcz12_3
    try clear hcz12_4
    try clear hcz12_5
    try clear hcz12_6
    try clear hcz13_0
    try clear hcz13_1
    try clear hcz13_2
    try clear hcz13_3
    try clear hcz13_4
    try clear hcz13_5
    try clear hcz13_6
    try clear hcz19_0
    try clear hcz19_1
    try clear hcz19_2
    try clear hcz19_3
    try clear hcz19_4
    try clear hcz19_5
    try clear hcz19_6
    try clear hcz20_0
    try clear hcz20_1
    try clear hcz20_2
    try clear hcz20_3
    try clear hcz20_4
    try clear hcz20_5
    try clear hcz20_6
    try clear hcz22_0
    try clear hcz22_1
    try clear hcz22_2
    try clear hcz22_3
    try clear hcz22_4
    try clear hcz22_5
    try clear hcz22_6
    try clear hcz23_0
    try clear hcz23_1
    try clear hcz23_2
    try clear hcz23_3
    try clear hcz23_4
    try clear hcz23_5
    try clear hcz23_6
    try clear hcz25_0
    try clear hcz25_1
    try clear hcz25_2
    try clear hcz25_3
    try clear hcz25_4
    try clear hcz25_5
    try clear hcz25_6
    try clear hcz26_0
    try clear hcz26_1
    try clear hcz26_2
    try clear hcz26_3
    try clear hcz26_4
    try clear hcz26_5
    try clear hcz26_6
    try clear hcz28_0
    try clear hcz28_1
    try clear hcz28_2
    try clear hcz28_3
    try clear hcz28_4
    try clear hcz28_5
    try clear hcz28_6
    try clear hcz29_0
    try clear hcz29_1
    try clear hcz29_2
    try clear hcz29_3
    try clear hcz29_4
    try clear hcz29_5
    try clear hcz29_6
    try clear hcz33_0
    try clear hcz33_1
    try clear hcz33_2
    try clear hcz33_3
    try clear hcz33_4
    try clear hcz33_5
    try clear hcz33_6
    try clear hcz34_0
    try clear hcz34_1
    try clear hcz34_2
    try clear hcz34_3
    try clear hcz34_4
    try clear hcz34_5
    try clear hcz34_6
    try clear hcz36_0
    try clear hcz36_1
    try clear hcz36_2
    try clear hcz36_3
    try clear hcz36_4
    try clear hcz36_5
    try clear hcz36_6
    try clear hcz37_0
    try clear hcz37_1
    try clear hcz37_2
    try clear hcz37_3
    try clear hcz37_4
    try clear hcz37_5
    try clear hcz37_6
    try clear hcz39_0
    try clear hcz39_1
    try clear hcz39_2
    try clear hcz39_3
    try clear hcz39_4
    try clear hcz39_5
    try clear hcz39_6
    try clear hcz40_0
    try clear hcz40_1
    try clear hcz40_2
    try clear hcz40_3
    try clear hcz40_4
    try clear hcz40_5
    try clear hcz40_6
    try clear hcz8_0
    try clear hcz8_1
    try clear hcz8_2
    try clear hcz8_3
    try clear hcz8_4
    try clear hcz8_5
    try clear hcz8_6
    try clear hcz9_0
    try clear hcz9_1
    try clear hcz9_2
    try clear hcz9_3
    try clear hcz9_4
    try clear hcz9_5
    try clear hcz9_6
    try clear hfz12_0
    try clear hfz12_1
    try clear hfz12_2
    try clear hfz12_3
    try clear hfz12_4
    try clear hfz12_5
    try clear hfz12_6
    try clear hfz13_0
    try clear hfz13_1
    try clear hfz13_2
    try clear hfz13_3
    try clear hfz13_4
    try clear hfz13_5
    try clear hfz13_6
    try clear hfz19_0
    try clear hfz19_1
    try clear hfz19_2
    try clear hfz19_3
    try clear hfz19_4
    try clear hfz19_5
    try clear hfz19_6
    try clear hfz20_0
    try clear hfz20_1
    try clear hfz20_2
    try clear hfz20_3
    try clear hfz20_4
    try clear hfz20_5
    try clear hfz20_6
    try clear hfz22_0
    try clear hfz22_1
    try clear hfz22_2
    try clear hfz22_3
    try clear hfz22_4
    try clear hfz22_5
    try clear hfz22_6
    try clear hfz23_0
    try clear hfz23_1
    try clear hfz23_2
    try clear hfz23_3
    try clear hfz23_4
    try clear hfz23_5
    try clear hfz23_6
    try clear hfz25_0
    try clear hfz25_1
    try clear hfz25_2
    try clear hfz25_3
    try clear hfz25_4
    try clear hfz25_5
    try clear hfz25_6
    try clear hfz26_0
    try clear hfz26_1
    try clear hfz26_2
    try clear hfz26_3
    try clear hfz26_4
    try clear hfz26_5
    try clear hfz26_6
    try clear hfz28_0
    try clear hfz28_1
    try clear hfz28_2
    try clear hfz28_3
    try clear hfz28_4
    try clear hfz28_5
    try clear hfz28_6
    try clear hfz29_0
    try clear hfz29_1
    try clear hfz29_2
    try clear hfz29_3
    try clear hfz29_4
    try clear hfz29_5
    try clear hfz29_6
    try clear hfz33_0
    try clear hfz33_1
    try clear hfz33_2
    try clear hfz33_3
    try clear hfz33_4
    try clear hfz33_5
    try clear hfz33_6
    try clear hfz34_0
    try clear hfz34_1
    try clear hfz34_2
    try clear hfz34_3
    try clear hfz34_4
    try clear hfz34_5
    try clear hfz34_6
    try clear hfz36_0
    try clear hfz36_1
    try clear hfz36_2
    try clear hfz36_3
    try clear hfz36_4
    try clear hfz36_5
    try clear hfz36_6
    try clear hfz37_0
    try clear hfz37_1
    try clear hfz37_2
    try clear hfz37_3
    try clear hfz37_4
    try clear hfz37_5
    try clear hfz37_6
    try clear hfz39_0
    try clear hfz39_1
    try clear hfz39_2
    try clear hfz39_3
    try clear hfz39_4
    try clear hfz39_5
    try clear hfz39_6
    try clear hfz40_0
    try clear hfz40_1
    try clear hfz40_2
    try clear hfz40_3
    try clear hfz40_4
    try clear hfz40_5
    try clear hfz40_6
    try clear hfz8_0
    try clear hfz8_1
    try clear hfz8_2
    try clear hfz8_3
    try clear hfz8_4
    try clear hfz8_5
    try clear hfz8_6
    try clear hfz9_0
    try clear hfz9_1
    try clear hfz9_2
    try clear hfz9_3
    try clear hfz9_4
    try clear hfz9_5
    try clear hfz9_6
    obtain ⟨kq, x42_2, rfl, HA, HJ2, BK122, BK123, HB⟩ := hcut
    cases kq with
    | zero => exact absurd HA.out (by simp [marlineref08_Fits.j0])
    | succ kj2 =>
      have H := HA.out
      clear HA
      simp only [marlineref08_Fits.j0] at H
      by_cases c41 : x42_2 = true
      · subst c41
        have H1 : (some false) = some r := by rw [if_pos rfl] at H; exact H
        clear H
        have H := H1
        clear H1
        obtain rfl := Option.some.inj H
        go_wp2
        go_ret
        exact ⟨by first | rfl | (simp [errW_none, errW_some] <;> rfl) | (simp [*, errW_none, errW_some] <;> rfl), by repeat (first | (with_reducible first | exact HB.out | apply below_alloc | apply pw_below_drewN | apply below_drew1 | refine below_set ?_ GE122.out | refine below_set ?_ GE123.out) | exact HB.out)⟩
      · replace c41 := Bool.eq_false_iff.mpr c41
        subst c41
        have H1 : (marlineref08_Fits.l0 kj2 0 a0_0 a0_1 a0_2 a0_3 a0_4 a0_5 a0_6 a1_0 a1_1 a1_2 a1_3 a1_4 a1_5 a1_6) = some r := by rw [if_neg (show ¬ (false = true) by decide)] at H; exact H
        clear H
        have H := H1
        clear H1
        have H' := Aside0.mk H
        clear H
        go_wp2
        go_loopg [5] kj2 (fun kq v5 w' => ∃ (x5_2 : Int), v5 = .int .u8 x5_2 ∧ Aside0 (marlineref08_Fits.l0 kq x5_2 a0_0 a0_1 a0_2 a0_3 a0_4 a0_5 a0_6 a1_0 a1_1 a1_2 a1_3 a1_4 a1_5 a1_6 = some r) ∧ Aside0 (kq ≤ kj2) ∧ Aside0 (w'.heap[gb122]? = some (.cells #[.bool a0_0, .bool a0_1, .bool a0_2, .bool a0_3, .int .u32 a0_4, .int .u32 a0_5, .int .i64 a0_6] 24 (0, 0))) ∧ Aside0 (w'.heap[gb123]? = some (.cells #[.bool a1_0, .bool a1_1, .bool a1_2, .bool a1_3, .int .u32 a1_4, .int .u32 a1_5, .int .i64 a1_6] 24 (0, 0))) ∧ Aside0 (Below w.heap.size w w'))
        case atStart => exact ⟨(0), (by first | rfl | (simp; done) | (simp [*]; done)), H', ⟨Nat.le_refl _⟩, ⟨by (with_reducible repeat (first | refine blk_drewN ?_ _ | refine blk_drew ?_ | refine blk_alloc ?_ _)); exact BK122.out⟩, ⟨by (with_reducible repeat (first | refine blk_drewN ?_ _ | refine blk_drew ?_ | refine blk_alloc ?_ _)); exact BK123.out⟩, ⟨by repeat (first | (with_reducible first | exact HB.out | apply below_alloc | apply pw_below_drewN | apply below_drew1 | refine below_set ?_ GE122.out | refine below_set ?_ GE123.out) | exact HB.out)⟩⟩
        case round =>
          clear H'
          try clear c1
          try clear c2
          try clear p2
          try clear c3
          try clear c4
          try clear c6
          try clear c6b0
          try clear c6b1
          try clear c6b2
          try clear c7
          try clear c10
          try clear c10b0
          try clear c10b1
          try clear c10b2
          try clear c11
          try clear c14
          try clear c15
          try clear c16
          try clear c17
          try clear c18
          try clear c21
          try clear c23
          try clear c24
          try clear c27
          try clear c30
          try clear c31
          try clear c32
          try clear c35
          try clear c38
          try clear c41
          try clear hcz12_0
          try clear hcz12_1
          try clear hcz12_2
          try clear hcz12_3
          try clear hcz12_4
          try clear hcz12_5
          try clear hcz12_6
          try clear hcz13_0
          try clear hcz13_1
          try clear hcz13_2
          try clear hcz13_3
          try clear hcz13_4
          try clear hcz13_5
          try clear hcz13_6
          try clear hcz19_0
          try clear hcz19_1
          try clear hcz19_2
          try clear hcz19_3
          try clear hcz19_4
          try clear hcz19_5
          try clear hcz19_6
          try clear hcz20_0
          try clear hcz20_1
          try clear hcz20_2
          try clear hcz20_3
          try clear hcz20_4
          try clear hcz20_5
          try clear hcz20_6
          try clear hcz22_0
          try clear hcz22_1
          try clear hcz22_2
          try clear hcz22_3
          try clear hcz22_4
          try clear hcz22_5
          try clear hcz22_6
          try clear hcz23_0
          try clear hcz23_1
          try clear hcz23_2
          try clear hcz23_3
          try clear hcz23_4
          try clear hcz23_5
          try clear hcz23_6
          try clear hcz25_0
          try clear hcz25_1
          try clear hcz25_2
          try clear hcz25_3
          try clear hcz25_4
          try clear hcz25_5
          try clear hcz25_6
          try clear hcz26_0
          try clear hcz26_1
          try clear hcz26_2
          try clear hcz26_3
          try clear hcz26_4
          try clear hcz26_5
          try clear hcz26_6
          try clear hcz28_0
          try clear hcz28_1
          try clear hcz28_2
          try clear hcz28_3
          try clear hcz28_4
          try clear hcz28_5
          try clear hcz28_6
          try clear hcz29_0
          try clear hcz29_1
          try clear hcz29_2
          try clear hcz29_3
          try clear hcz29_4
          try clear hcz29_5
          try clear hcz29_6
          try clear hcz33_0
          try clear hcz33_1
          try clear hcz33_2
          try clear hcz33_3
          try clear hcz33_4
          try clear hcz33_5
          try clear hcz33_6
          try clear hcz34_0
          try clear hcz34_1
          try clear hcz34_2
          try clear hcz34_3
          try clear hcz34_4
          try clear hcz34_5
          try clear hcz34_6
          try clear hcz36_0
          try clear hcz36_1
          try clear hcz36_2
          try clear hcz36_3
          try clear hcz36_4
          try clear hcz36_5
          try clear hcz36_6
          try clear hcz37_0
          try clear hcz37_1
          try clear hcz37_2
          try clear hcz37_3
          try clear hcz37_4
          try clear hcz37_5
          try clear hcz37_6
          try clear hcz39_0
          try clear hcz39_1
          try clear hcz39_2
          try clear hcz39_3
          try clear hcz39_4
          try clear hcz39_5
          try clear hcz39_6
          try clear hcz40_0
          try clear hcz40_1
          try clear hcz40_2
          try clear hcz40_3
          try clear hcz40_4
          try clear hcz40_5
          try clear hcz40_6
          try clear hcz8_0
          try clear hcz8_1
          try clear hcz8_2
          try clear hcz8_3
          try clear hcz8_4
          try clear hcz8_5
          try clear hcz8_6
          try clear hcz9_0
          try clear hcz9_1
          try clear hcz9_2
          try clear hcz9_3
          try clear hcz9_4
          try clear hcz9_5
          try clear hcz9_6
          try clear hfz12_0
          try clear hfz12_1
          try clear hfz12_2
          try clear hfz12_3
          try clear hfz12_4
          try clear hfz12_5
          try clear hfz12_6
          try clear hfz13_0
          try clear hfz13_1
          try clear hfz13_2
          try clear hfz13_3
          try clear hfz13_4
          try clear hfz13_5
          try clear hfz13_6
          try clear hfz19_0
          try clear hfz19_1
          try clear hfz19_2
          try clear hfz19_3
          try clear hfz19_4
          try clear hfz19_5
          try clear hfz19_6
          try clear hfz20_0
          try clear hfz20_1
          try clear hfz20_2
          try clear hfz20_3
          try clear hfz20_4
          try clear hfz20_5
          try clear hfz20_6
          try clear hfz22_0
          try clear hfz22_1
          try clear hfz22_2
          try clear hfz22_3
          try clear hfz22_4
          try clear hfz22_5
          try clear hfz22_6
          try clear hfz23_0
          try clear hfz23_1
          try clear hfz23_2
          try clear hfz23_3
          try clear hfz23_4
          try clear hfz23_5
          try clear hfz23_6
          try clear hfz25_0
          try clear hfz25_1
          try clear hfz25_2
          try clear hfz25_3
          try clear hfz25_4
          try clear hfz25_5
          try clear hfz25_6
          try clear hfz26_0
          try clear hfz26_1
          try clear hfz26_2
          try clear hfz26_3
          try clear hfz26_4
          try clear hfz26_5
          try clear hfz26_6
          try clear hfz28_0
          try clear hfz28_1
          try clear hfz28_2
          try clear hfz28_3
          try clear hfz28_4
          try clear hfz28_5
          try clear hfz28_6
          try clear hfz29_0
          try clear hfz29_1
          try clear hfz29_2
          try clear hfz29_3
          try clear hfz29_4
          try clear hfz29_5
          try clear hfz29_6
          try clear hfz33_0
          try clear hfz33_1
          try clear hfz33_2
          try clear hfz33_3
          try clear hfz33_4
          try clear hfz33_5
          try clear hfz33_6
          try clear hfz34_0
          try clear hfz34_1
          try clear hfz34_2
          try clear hfz34_3
          try clear hfz34_4
          try clear hfz34_5
          try clear hfz34_6
          try clear hfz36_0
          try clear hfz36_1
          try clear hfz36_2
          try clear hfz36_3
          try clear hfz36_4
          try clear hfz36_5
          try clear hfz36_6
          try clear hfz37_0
          try clear hfz37_1
          try clear hfz37_2
          try clear hfz37_3
          try clear hfz37_4
          try clear hfz37_5
          try clear hfz37_6
          try clear hfz39_0
          try clear hfz39_1
          try clear hfz39_2
          try clear hfz39_3
          try clear hfz39_4
          try clear hfz39_5
          try clear hfz39_6
          try clear hfz40_0
          try clear hfz40_1
          try clear hfz40_2
          try clear hfz40_3
          try clear hfz40_4
          try clear hfz40_5
          try clear hfz40_6
          try clear hfz8_0
          try clear hfz8_1
          try clear hfz8_2
          try clear hfz8_3
          try clear hfz8_4
          try clear hfz8_5
          try clear hfz8_6
          try clear hfz9_0
          try clear hfz9_1
          try clear hfz9_2
          try clear hfz9_3
          try clear hfz9_4
          try clear hfz9_5
          try clear hfz9_6
          try clear p2
          obtain ⟨x5_2, rfl, HA, HK2, BK122, BK123, HB⟩ := hrel
          cases gk with
          | zero => exact absurd HA.out (by simp [marlineref08_Fits.l0])
          | succ k2 =>
            have H := HA.out
            clear HA
            simp only [marlineref08_Fits.l0] at H
            by_cases c42 : x5_2 < 32
            · rw [if_pos c42] at H
              have c42b0 : decide (x5_2 < 32) = true := decide_eq_true c42
              clear c42
              by_cases c43 : a0_0 = true
              · subst c43
                have H1 : (marlineref08_Fits.l0 k2 ((x5_2 + 1) % 256) true a0_1 a0_2 a0_3 a0_4 a0_5 a0_6 a1_0 a1_1 a1_2 a1_3 a1_4 a1_5 a1_6) = some r := by rw [if_pos rfl] at H; exact H
                clear H
                have H := H1
                clear H1
                have H' := Aside0.mk H
                clear H
                have hnb44 := NB122_123.out
                have hnc44 := NB123_122.out
                have hcz45_0 : wr.cell? ⟨gb122, 0, none⟩ = some (.bool true) := (blk_cell BK122.out 0).trans rfl
                have hcz45_1 : wr.cell? ⟨gb122, 1, none⟩ = some (.bool a0_1) := (blk_cell BK122.out 1).trans rfl
                have hcz45_2 : wr.cell? ⟨gb122, 2, none⟩ = some (.bool a0_2) := (blk_cell BK122.out 2).trans rfl
                have hcz45_3 : wr.cell? ⟨gb122, 3, none⟩ = some (.bool a0_3) := (blk_cell BK122.out 3).trans rfl
                have hcz45_4 : wr.cell? ⟨gb122, 4, none⟩ = some (.int .u32 a0_4) := (blk_cell BK122.out 4).trans rfl
                have hcz45_5 : wr.cell? ⟨gb122, 5, none⟩ = some (.int .u32 a0_5) := (blk_cell BK122.out 5).trans rfl
                have hcz45_6 : wr.cell? ⟨gb122, 6, none⟩ = some (.int .i64 a0_6) := (blk_cell BK122.out 6).trans rfl
                have hfz45_0 := blk_frozen BK122.out 0
                have hfz45_1 := blk_frozen BK122.out 1
                have hfz45_2 := blk_frozen BK122.out 2
                have hfz45_3 := blk_frozen BK122.out 3
                have hfz45_4 := blk_frozen BK122.out 4
                have hfz45_5 := blk_frozen BK122.out 5
                have hfz45_6 := blk_frozen BK122.out 6
                go_wp2
                go_roundg k2
                case measure => have := HJ2.out; have := HK2.out; omega
                case rel => exact ⟨((x5_2 + 1) % 256), (by first | rfl | (simp; done) | (simp [*]; done)), H', ⟨by have := HJ2.out; have := HK2.out; omega⟩, ⟨by (with_reducible repeat (first | refine blk_drewN ?_ _ | refine blk_drew ?_ | refine blk_alloc ?_ _)); exact BK122.out⟩, ⟨by (with_reducible repeat (first | refine blk_drewN ?_ _ | refine blk_drew ?_ | refine blk_alloc ?_ _)); exact BK123.out⟩, ⟨by repeat (first | (with_reducible first | exact HB.out | apply below_alloc | apply pw_below_drewN | apply below_drew1 | refine below_set ?_ GE122.out | refine below_set ?_ GE123.out) | exact HB.out)⟩⟩
              · replace c43 := Bool.eq_false_iff.mpr c43
                subst c43
                have H1 : ((marlineref03_Has.f k2 a1_5 x5_2).bind fun t124 => (if t124 = true then ((marlineref03_Has.f k2 a0_4 x5_2).bind fun t125 => (if t125 = true then (marlineref08_Fits.l0 k2 ((x5_2 + 1) % 256) false a0_1 a0_2 a0_3 a0_4 a0_5 a0_6 a1_0 a1_1 a1_2 a1_3 a1_4 a1_5 a1_6) else (some false))) else (marlineref08_Fits.l0 k2 ((x5_2 + 1) % 256) false a0_1 a0_2 a0_3 a0_4 a0_5 a0_6 a1_0 a1_1 a1_2 a1_3 a1_4 a1_5 a1_6))) = some r := by rw [if_neg (show ¬ (false = true) by decide)] at H; exact H
                clear H
                have H := H1
                clear H1
                replace H := Option.bind_eq_some_iff.mp H
                obtain ⟨t124, A460, H⟩ := H
                replace H : (if t124 = true then ((marlineref03_Has.f k2 a0_4 x5_2).bind fun t125 => (if t125 = true then (marlineref08_Fits.l0 k2 ((x5_2 + 1) % 256) false a0_1 a0_2 a0_3 a0_4 a0_5 a0_6 a1_0 a1_1 a1_2 a1_3 a1_4 a1_5 a1_6) else (some false))) else (marlineref08_Fits.l0 k2 ((x5_2 + 1) % 256) false a0_1 a0_2 a0_3 a0_4 a0_5 a0_6 a1_0 a1_1 a1_2 a1_3 a1_4 a1_5 a1_6)) = some r := H
                have A46 := Aside0.mk A460
                clear A460
                by_cases c47 : t124 = true
                · subst c47
                  have H1 : ((marlineref03_Has.f k2 a0_4 x5_2).bind fun t125 => (if t125 = true then (marlineref08_Fits.l0 k2 ((x5_2 + 1) % 256) false a0_1 a0_2 a0_3 a0_4 a0_5 a0_6 a1_0 a1_1 a1_2 a1_3 a1_4 a1_5 a1_6) else (some false))) = some r := by rw [if_pos rfl] at H; exact H
                  clear H
                  have H := H1
                  clear H1
                  replace H := Option.bind_eq_some_iff.mp H
                  obtain ⟨t125, A480, H⟩ := H
                  replace H : (if t125 = true then (marlineref08_Fits.l0 k2 ((x5_2 + 1) % 256) false a0_1 a0_2 a0_3 a0_4 a0_5 a0_6 a1_0 a1_1 a1_2 a1_3 a1_4 a1_5 a1_6) else (some false)) = some r := H
                  have A48 := Aside0.mk A480
                  clear A480
                  by_cases c49 : t125 = true
                  · subst c49
                    have H1 : (marlineref08_Fits.l0 k2 ((x5_2 + 1) % 256) false a0_1 a0_2 a0_3 a0_4 a0_5 a0_6 a1_0 a1_1 a1_2 a1_3 a1_4 a1_5 a1_6) = some r := by rw [if_pos rfl] at H; exact H
                    clear H
                    have H := H1
                    clear H1
                    have H' := Aside0.mk H
                    clear H
                    have hnb50 := NB122_123.out
                    have hnc50 := NB123_122.out
                    have hcz51_0 : wr.cell? ⟨gb122, 0, none⟩ = some (.bool false) := (blk_cell BK122.out 0).trans rfl
                    have hcz51_1 : wr.cell? ⟨gb122, 1, none⟩ = some (.bool a0_1) := (blk_cell BK122.out 1).trans rfl
                    have hcz51_2 : wr.cell? ⟨gb122, 2, none⟩ = some (.bool a0_2) := (blk_cell BK122.out 2).trans rfl
                    have hcz51_3 : wr.cell? ⟨gb122, 3, none⟩ = some (.bool a0_3) := (blk_cell BK122.out 3).trans rfl
                    have hcz51_4 : wr.cell? ⟨gb122, 4, none⟩ = some (.int .u32 a0_4) := (blk_cell BK122.out 4).trans rfl
                    have hcz51_5 : wr.cell? ⟨gb122, 5, none⟩ = some (.int .u32 a0_5) := (blk_cell BK122.out 5).trans rfl
                    have hcz51_6 : wr.cell? ⟨gb122, 6, none⟩ = some (.int .i64 a0_6) := (blk_cell BK122.out 6).trans rfl
                    have hfz51_0 := blk_frozen BK122.out 0
                    have hfz51_1 := blk_frozen BK122.out 1
                    have hfz51_2 := blk_frozen BK122.out 2
                    have hfz51_3 := blk_frozen BK122.out 3
                    have hfz51_4 := blk_frozen BK122.out 4
                    have hfz51_5 := blk_frozen BK122.out 5
                    have hfz51_6 := blk_frozen BK122.out 6
                    have hcz52_0 : wr.cell? ⟨gb123, 0, none⟩ = some (.bool a1_0) := (blk_cell BK123.out 0).trans rfl
                    have hcz52_1 : wr.cell? ⟨gb123, 1, none⟩ = some (.bool a1_1) := (blk_cell BK123.out 1).trans rfl
                    have hcz52_2 : wr.cell? ⟨gb123, 2, none⟩ = some (.bool a1_2) := (blk_cell BK123.out 2).trans rfl
                    have hcz52_3 : wr.cell? ⟨gb123, 3, none⟩ = some (.bool a1_3) := (blk_cell BK123.out 3).trans rfl
                    have hcz52_4 : wr.cell? ⟨gb123, 4, none⟩ = some (.int .u32 a1_4) := (blk_cell BK123.out 4).trans rfl
                    have hcz52_5 : wr.cell? ⟨gb123, 5, none⟩ = some (.int .u32 a1_5) := (blk_cell BK123.out 5).trans rfl
                    have hcz52_6 : wr.cell? ⟨gb123, 6, none⟩ = some (.int .i64 a1_6) := (blk_cell BK123.out 6).trans rfl
                    have hfz52_0 := blk_frozen BK123.out 0
                    have hfz52_1 := blk_frozen BK123.out 1
                    have hfz52_2 := blk_frozen BK123.out 2
                    have hfz52_3 := blk_frozen BK123.out 3
                    have hfz52_4 := blk_frozen BK123.out 4
                    have hfz52_5 := blk_frozen BK123.out 5
                    have hfz52_6 := blk_frozen BK123.out 6
                    go_wp2_with (first | (go_at_call 55; (with_reducible refine (marlineref03_Has.calls k2 a1_5 x5_2 true _ A46.out).mono ?_); rintro e w' ⟨rfl, ⟨nd, rfl⟩⟩) | (go_at_call 55; (with_reducible refine (marlineref03_Has.calls k2 a0_4 x5_2 true _ A48.out).mono ?_); rintro e w' ⟨rfl, ⟨nd, rfl⟩⟩))
                    go_roundg k2
                    case measure => have := HJ2.out; have := HK2.out; omega
                    case rel => exact ⟨((x5_2 + 1) % 256), (by first | rfl | (simp; done) | (simp [*]; done)), H', ⟨by have := HJ2.out; have := HK2.out; omega⟩, ⟨by (with_reducible repeat (first | refine blk_drewN ?_ _ | refine blk_drew ?_ | refine blk_alloc ?_ _)); exact BK122.out⟩, ⟨by (with_reducible repeat (first | refine blk_drewN ?_ _ | refine blk_drew ?_ | refine blk_alloc ?_ _)); exact BK123.out⟩, ⟨by repeat (first | (with_reducible first | exact HB.out | apply below_alloc | apply pw_below_drewN | apply below_drew1 | refine below_set ?_ GE122.out | refine below_set ?_ GE123.out) | exact HB.out)⟩⟩
                  · replace c49 := Bool.eq_false_iff.mpr c49
                    subst c49
                    have H1 : (some false) = some r := by rw [if_neg (show ¬ (false = true) by decide)] at H; exact H
                    clear H
                    have H := H1
                    clear H1
                    obtain rfl := Option.some.inj H
                    have hnb53 := NB122_123.out
                    have hnc53 := NB123_122.out
                    have hcz54_0 : wr.cell? ⟨gb122, 0, none⟩ = some (.bool false) := (blk_cell BK122.out 0).trans rfl
                    have hcz54_1 : wr.cell? ⟨gb122, 1, none⟩ = some (.bool a0_1) := (blk_cell BK122.out 1).trans rfl
                    have hcz54_2 : wr.cell? ⟨gb122, 2, none⟩ = some (.bool a0_2) := (blk_cell BK122.out 2).trans rfl
                    have hcz54_3 : wr.cell? ⟨gb122, 3, none⟩ = some (.bool a0_3) := (blk_cell BK122.out 3).trans rfl
                    have hcz54_4 : wr.cell? ⟨gb122, 4, none⟩ = some (.int .u32 a0_4) := (blk_cell BK122.out 4).trans rfl
                    have hcz54_5 : wr.cell? ⟨gb122, 5, none⟩ = some (.int .u32 a0_5) := (blk_cell BK122.out 5).trans rfl
                    have hcz54_6 : wr.cell? ⟨gb122, 6, none⟩ = some (.int .i64 a0_6) := (blk_cell BK122.out 6).trans rfl
                    have hfz54_0 := blk_frozen BK122.out 0
                    have hfz54_1 := blk_frozen BK122.out 1
                    have hfz54_2 := blk_frozen BK122.out 2
                    have hfz54_3 := blk_frozen BK122.out 3
                    have hfz54_4 := blk_frozen BK122.out 4
                    have hfz54_5 := blk_frozen BK122.out 5
                    have hfz54_6 := blk_frozen BK122.out 6
                    have hcz55_0 : wr.cell? ⟨gb123, 0, none⟩ = some (.bool a1_0) := (blk_cell BK123.out 0).trans rfl
                    have hcz55_1 : wr.cell? ⟨gb123, 1, none⟩ = some (.bool a1_1) := (blk_cell BK123.out 1).trans rfl
                    have hcz55_2 : wr.cell? ⟨gb123, 2, none⟩ = some (.bool a1_2) := (blk_cell BK123.out 2).trans rfl
                    have hcz55_3 : wr.cell? ⟨gb123, 3, none⟩ = some (.bool a1_3) := (blk_cell BK123.out 3).trans rfl
                    have hcz55_4 : wr.cell? ⟨gb123, 4, none⟩ = some (.int .u32 a1_4) := (blk_cell BK123.out 4).trans rfl
                    have hcz55_5 : wr.cell? ⟨gb123, 5, none⟩ = some (.int .u32 a1_5) := (blk_cell BK123.out 5).trans rfl
                    have hcz55_6 : wr.cell? ⟨gb123, 6, none⟩ = some (.int .i64 a1_6) := (blk_cell BK123.out 6).trans rfl
                    have hfz55_0 := blk_frozen BK123.out 0
                    have hfz55_1 := blk_frozen BK123.out 1
                    have hfz55_2 := blk_frozen BK123.out 2
                    have hfz55_3 := blk_frozen BK123.out 3
                    have hfz55_4 := blk_frozen BK123.out 4
                    have hfz55_5 := blk_frozen BK123.out 5
                    have hfz55_6 := blk_frozen BK123.out 6
                    go_wp2_with (first | (go_at_call 55; (with_reducible refine (marlineref03_Has.calls k2 a1_5 x5_2 true _ A46.out).mono ?_); rintro e w' ⟨rfl, ⟨nd, rfl⟩⟩) | (go_at_call 55; (with_reducible refine (marlineref03_Has.calls k2 a0_4 x5_2 false _ A48.out).mono ?_); rintro e w' ⟨rfl, ⟨nd, rfl⟩⟩))
                    go_ret
                    exact ⟨by first | rfl | (simp [errW_none, errW_some] <;> rfl) | (simp [*, errW_none, errW_some] <;> rfl), by repeat (first | (with_reducible first | exact HB.out | apply below_alloc | apply pw_below_drewN | apply below_drew1 | refine below_set ?_ GE122.out | refine below_set ?_ GE123.out) | exact HB.out)⟩
                · replace c47 := Bool.eq_false_iff.mpr c47
                  subst c47
                  have H1 : (marlineref08_Fits.l0 k2 ((x5_2 + 1) % 256) false a0_1 a0_2 a0_3 a0_4 a0_5 a0_6 a1_0 a1_1 a1_2 a1_3 a1_4 a1_5 a1_6) = some r := by rw [if_neg (show ¬ (false = true) by decide)] at H; exact H
                  clear H
                  have H := H1
                  clear H1
                  have H' := Aside0.mk H
                  clear H
                  have hnb56 := NB122_123.out
                  have hnc56 := NB123_122.out
                  have hcz57_0 : wr.cell? ⟨gb122, 0, none⟩ = some (.bool false) := (blk_cell BK122.out 0).trans rfl
                  have hcz57_1 : wr.cell? ⟨gb122, 1, none⟩ = some (.bool a0_1) := (blk_cell BK122.out 1).trans rfl
                  have hcz57_2 : wr.cell? ⟨gb122, 2, none⟩ = some (.bool a0_2) := (blk_cell BK122.out 2).trans rfl
                  have hcz57_3 : wr.cell? ⟨gb122, 3, none⟩ = some (.bool a0_3) := (blk_cell BK122.out 3).trans rfl
                  have hcz57_4 : wr.cell? ⟨gb122, 4, none⟩ = some (.int .u32 a0_4) := (blk_cell BK122.out 4).trans rfl
                  have hcz57_5 : wr.cell? ⟨gb122, 5, none⟩ = some (.int .u32 a0_5) := (blk_cell BK122.out 5).trans rfl
                  have hcz57_6 : wr.cell? ⟨gb122, 6, none⟩ = some (.int .i64 a0_6) := (blk_cell BK122.out 6).trans rfl
                  have hfz57_0 := blk_frozen BK122.out 0
                  have hfz57_1 := blk_frozen BK122.out 1
                  have hfz57_2 := blk_frozen BK122.out 2
                  have hfz57_3 := blk_frozen BK122.out 3
                  have hfz57_4 := blk_frozen BK122.out 4
                  have hfz57_5 := blk_frozen BK122.out 5
                  have hfz57_6 := blk_frozen BK122.out 6
                  have hcz58_0 : wr.cell? ⟨gb123, 0, none⟩ = some (.bool a1_0) := (blk_cell BK123.out 0).trans rfl
                  have hcz58_1 : wr.cell? ⟨gb123, 1, none⟩ = some (.bool a1_1) := (blk_cell BK123.out 1).trans rfl
                  have hcz58_2 : wr.cell? ⟨gb123, 2, none⟩ = some (.bool a1_2) := (blk_cell BK123.out 2).trans rfl
                  have hcz58_3 : wr.cell? ⟨gb123, 3, none⟩ = some (.bool a1_3) := (blk_cell BK123.out 3).trans rfl
                  have hcz58_4 : wr.cell? ⟨gb123, 4, none⟩ = some (.int .u32 a1_4) := (blk_cell BK123.out 4).trans rfl
                  have hcz58_5 : wr.cell? ⟨gb123, 5, none⟩ = some (.int .u32 a1_5) := (blk_cell BK123.out 5).trans rfl
                  have hcz58_6 : wr.cell? ⟨gb123, 6, none⟩ = some (.int .i64 a1_6) := (blk_cell BK123.out 6).trans rfl
                  have hfz58_0 := blk_frozen BK123.out 0
                  have hfz58_1 := blk_frozen BK123.out 1
                  have hfz58_2 := blk_frozen BK123.out 2
                  have hfz58_3 := blk_frozen BK123.out 3
                  have hfz58_4 := blk_frozen BK123.out 4
                  have hfz58_5 := blk_frozen BK123.out 5
                  have hfz58_6 := blk_frozen BK123.out 6
                  go_wp2_with (first | (go_at_call 55; (with_reducible refine (marlineref03_Has.calls k2 a1_5 x5_2 false _ A46.out).mono ?_); rintro e w' ⟨rfl, ⟨nd, rfl⟩⟩))
                  go_roundg k2
                  case measure => have := HJ2.out; have := HK2.out; omega
                  case rel => exact ⟨((x5_2 + 1) % 256), (by first | rfl | (simp; done) | (simp [*]; done)), H', ⟨by have := HJ2.out; have := HK2.out; omega⟩, ⟨by (with_reducible repeat (first | refine blk_drewN ?_ _ | refine blk_drew ?_ | refine blk_alloc ?_ _)); exact BK122.out⟩, ⟨by (with_reducible repeat (first | refine blk_drewN ?_ _ | refine blk_drew ?_ | refine blk_alloc ?_ _)); exact BK123.out⟩, ⟨by repeat (first | (with_reducible first | exact HB.out | apply below_alloc | apply pw_below_drewN | apply below_drew1 | refine below_set ?_ GE122.out | refine below_set ?_ GE123.out) | exact HB.out)⟩⟩
            · rw [if_neg c42] at H
              have c42b0 : decide (x5_2 < 32) = false := decide_eq_false c42
              clear c42
              obtain rfl := Option.some.inj H
              go_wp2
              go_ret
              exact ⟨by first | rfl | (simp [errW_none, errW_some] <;> rfl) | (simp [*, errW_none, errW_some] <;> rfl), by repeat (first | (with_reducible first | exact HB.out | apply below_alloc | apply pw_below_drewN | apply below_drew1 | refine below_set ?_ GE122.out | refine below_set ?_ GE123.out) | exact HB.out)⟩

end Go.Proofs.YtggpejjfgphihaaDoor.C
