-- Printed by the session's own turn of the kit's print program (wip/pprint.py): not trusted, Lean checks it.
import Derived.Test.YtggpejjfgphihaaDoorHx0
import Derived.Test.YtggpejjfgphihaaDoorHx4
namespace Go.Proofs.YtggpejjfgphihaaDoor.H
open Go.Proofs.YtggpejjfgphihaaDoor.Given Go.Proofs.YtggpejjfgphihaaDoor.D Go.RowKit Go.Proofs.YtggpejjfgphihaaDoorW.PrintWords Go.Proofs.YtggpejjfgphihaaDoorW.PrintLast Go.Proofs.YtggpejjfgphihaaDoorW.PrintMore
attribute [local go_sem] max2_int min2_int max_two min_two max_three min_three max_four min_four   -- for this text's walks alone
set_option linter.unusedVariables false
set_option linter.unusedSimpArgs false

/-! ### marlineref10_Get: function 30 -/
def marlineref10_Get.j0 : Nat → List Int → Int → Bool → Bool → Bool → Bool → Bool → Int → Int → Int → Option (Int × Int × Int)
  | 0, _, _, _, _, _, _, _, _, _, _ => none
  | k + 1, x1, x7, x25, x140000, x140001, x140002, x140003, x140004, x140005, x140006 => if x25 = true then (if 2 ≤ (x1.length : Int) then ((marlineref09_Get.f (x1.drop 2) x140003).bind fun bt143 => (if bt143.2.2 = 0 then (some (bt143.1, wrap64 (2 + bt143.2.1), 0)) else (some (0, 0, 7)))) else (none)) else (if x140002 = true then (if 0 ≤ x7 then (if x7 ≤ (x1.length : Int) then ((marlineref09_Get.f (x1.drop (x7 : Int).toNat) x140003).bind fun bt147 => (if bt147.2.2 = 0 then (some (bt147.1, wrap64 (x7 + bt147.2.1), 0)) else (some (0, 0, 7)))) else (none)) else (none)) else (some (0, 0, 7)))
def marlineref10_Get.f (k : Nat) (a0_0 : Bool) (a0_1 : Bool) (a0_2 : Bool) (a0_3 : Bool) (a0_4 : Int) (a0_5 : Int) (a0_6 : Int) (l1 : List Int) : Option (Int × Int × Int) := if (l1.length : Int) ≥ 2 then (if 0 < (l1.length : Int) then (if (rd l1 0) = 255 then (if 1 < (l1.length : Int) then (marlineref10_Get.j0 k l1 0 ((rd l1 1) == 3) a0_0 a0_1 a0_2 a0_3 a0_4 a0_5 a0_6) else (none)) else (marlineref10_Get.j0 k l1 0 false a0_0 a0_1 a0_2 a0_3 a0_4 a0_5 a0_6)) else (none)) else (marlineref10_Get.j0 k l1 0 false a0_0 a0_1 a0_2 a0_3 a0_4 a0_5 a0_6)
theorem marlineref10_Get.mono_l : ∀ k, (∀ y0 y1 y2 y3 y4 y5 y6 y7 y8 y9, LeO (marlineref10_Get.j0 k y0 y1 y2 y3 y4 y5 y6 y7 y8 y9) (marlineref10_Get.j0 (k + 1) y0 y1 y2 y3 y4 y5 y6 y7 y8 y9))
  | 0 => fun _ _ _ _ _ _ _ _ _ _ r h => by simp [marlineref10_Get.j0] at h
  | k + 1 => by
    have ih0 := marlineref10_Get.mono_l k
    · intro y0 y1 y2 y3 y4 y5 y6 y7 y8 y9
      unfold marlineref10_Get.j0
      repeat' first
      | (with_reducible exact ih0 _ _ _ _ _ _ _ _ _ _)
      | (with_reducible exact LeO.refl _)
      | (with_reducible exact LeO.none _)
      | (with_reducible refine LeO.ite ?_ ?_)
      | (with_reducible refine LeO.bind ?_ (fun _ => ?_))
      | exact ih0 _ _ _ _ _ _ _ _ _ _
      | exact LeO.none _
      | refine LeO.ite ?_ ?_
      | refine LeO.bind ?_ (fun _ => ?_)
theorem marlineref10_Get.mono : ∀ a0 a1 a2 a3 a4 a5 a6 a7 k, LeO (marlineref10_Get.f k a0 a1 a2 a3 a4 a5 a6 a7) (marlineref10_Get.f (k + 1) a0 a1 a2 a3 a4 a5 a6 a7) := by
  intro a0 a1 a2 a3 a4 a5 a6 a7 k
  have ih0 := marlineref10_Get.mono_l k
  unfold marlineref10_Get.f
  repeat' first
      | (with_reducible exact ih0 _ _ _ _ _ _ _ _ _ _)
      | (with_reducible exact LeO.refl _)
      | (with_reducible exact LeO.none _)
      | (with_reducible refine LeO.ite ?_ ?_)
      | (with_reducible refine LeO.bind ?_ (fun _ => ?_))
      | exact ih0 _ _ _ _ _ _ _ _ _ _
      | exact LeO.none _
      | refine LeO.ite ?_ ?_
      | refine LeO.bind ?_ (fun _ => ?_)
set_option maxHeartbeats 8000000 in
set_option maxRecDepth 100000 in
theorem marlineref10_Get.calls (k : Nat) (a0_0 : Bool) (a0_1 : Bool) (a0_2 : Bool) (a0_3 : Bool) (a0_4 : Int) (a0_5 : Int) (a0_6 : Int) (A1 : Option Addr) (c1 : Nat) (l1 : List Int) (r1 : Int) (r2 : Int) (r3 : Int) (w : World) (hr1 : Kd.C (Kd.int .u8) w A1 l1.length l1) (hc1 : l1.length ≤ c1) (h : marlineref10_Get.f k a0_0 a0_1 a0_2 a0_3 a0_4 a0_5 a0_6 l1 = some (r1, r2, r3)) :
    Calls Tryd.prog 30 #[.agg #[.bool a0_0, .bool a0_1, .bool a0_2, .bool a0_3, .int .u32 a0_4, .int .u32 a0_5, .int .i64 a0_6], .slice A1 l1.length c1] w fun e w' => e = .returned (.tuple #[.int .i64 r1, .int .i64 r2, .int .i64 r3]) ∧ Below w.heap.size w w' := by
  have hu24 := Tryd.underlying24
  have HR1 := Aside0.mk hr1
  have HC1 := Aside0.mk hc1
  clear hr1 hc1
  have HB := Aside0.mk (Below.refl w.heap.size w)
  have H : (if (l1.length : Int) ≥ 2 then (if 0 < (l1.length : Int) then (if (rd l1 0) = 255 then (if 1 < (l1.length : Int) then (marlineref10_Get.j0 k l1 0 ((rd l1 1) == 3) a0_0 a0_1 a0_2 a0_3 a0_4 a0_5 a0_6) else (none)) else (marlineref10_Get.j0 k l1 0 false a0_0 a0_1 a0_2 a0_3 a0_4 a0_5 a0_6)) else (none)) else (marlineref10_Get.j0 k l1 0 false a0_0 a0_1 a0_2 a0_3 a0_4 a0_5 a0_6)) = some (r1, r2, r3) := h
  clear h
  have HC3 := Aside0.mk H
  clear H
  go_enter Tryd.func30, Tryd.ntmps30
  go_upto_region 2 with (first | ((with_reducible refine gate_dst (N := 2) rfl ?_); refine box_event ?hg (N := 2) ?hd (cs := #[.bool a0_0, .bool a0_1, .bool a0_2, .bool a0_3, .int .u32 a0_4, .int .u32 a0_5, .int .i64 a0_6]) (t := 24) ?hr ?_; (case hd => rfl); (case hg => rfl); (case hr => first | (go_simp; done) | (go_simp; rfl)); intro gb139 hg w4 hbox hb; have n0_ := Aside0.mk (below_step (by repeat (first | (with_reducible first | exact HB.out | apply below_alloc | apply pw_below_drewN | apply below_drew1) | exact HB.out)) hb); have n1_ := Aside0.mk (hbox); have n2_ := Aside0.mk ((by rw [hg]; exact (below_size (by repeat (first | (with_reducible first | exact HB.out | apply below_alloc | apply pw_below_drewN | apply below_drew1) | exact HB.out))) : w.heap.size ≤ gb139)); have n3_ := Aside0.mk ((by rw [hg]; exact (below_size (by repeat (first | (with_reducible first | exact HB.out | apply below_alloc | apply pw_below_drewN | apply below_drew1) | exact HB.out))) : w.heap.size ≤ gb139)); clear HB; have HB := n0_; have BK139 := n1_; have GW139 := n2_; have GE139 := n3_; clear n0_ n1_ n2_ n3_; clear hb hbox hg))
  repeat (go_quiet (first | ((with_reducible refine gate_dst (N := 2) rfl ?_); refine box_event ?hg (N := 2) ?hd (cs := #[.bool a0_0, .bool a0_1, .bool a0_2, .bool a0_3, .int .u32 a0_4, .int .u32 a0_5, .int .i64 a0_6]) (t := 24) ?hr ?_; (case hd => rfl); (case hg => rfl); (case hr => first | (go_simp; done) | (go_simp; rfl)); intro gb139 hg w4 hbox hb; have n0_ := Aside0.mk (below_step (by repeat (first | (with_reducible first | exact HB.out | apply below_alloc | apply pw_below_drewN | apply below_drew1) | exact HB.out)) hb); have n1_ := Aside0.mk (hbox); have n2_ := Aside0.mk ((by rw [hg]; exact (below_size (by repeat (first | (with_reducible first | exact HB.out | apply below_alloc | apply pw_below_drewN | apply below_drew1) | exact HB.out))) : w.heap.size ≤ gb139)); have n3_ := Aside0.mk ((by rw [hg]; exact (below_size (by repeat (first | (with_reducible first | exact HB.out | apply below_alloc | apply pw_below_drewN | apply below_drew1) | exact HB.out))) : w.heap.size ≤ gb139)); clear HB; have HB := n0_; have BK139 := n1_; have GW139 := n2_; have GE139 := n3_; clear n0_ n1_ n2_ n3_; clear hb hbox hg)); go_upto_region 2 with (first | ((with_reducible refine gate_dst (N := 2) rfl ?_); refine box_event ?hg (N := 2) ?hd (cs := #[.bool a0_0, .bool a0_1, .bool a0_2, .bool a0_3, .int .u32 a0_4, .int .u32 a0_5, .int .i64 a0_6]) (t := 24) ?hr ?_; (case hd => rfl); (case hg => rfl); (case hr => first | (go_simp; done) | (go_simp; rfl)); intro gb139 hg w4 hbox hb; have n0_ := Aside0.mk (below_step (by repeat (first | (with_reducible first | exact HB.out | apply below_alloc | apply pw_below_drewN | apply below_drew1) | exact HB.out)) hb); have n1_ := Aside0.mk (hbox); have n2_ := Aside0.mk ((by rw [hg]; exact (below_size (by repeat (first | (with_reducible first | exact HB.out | apply below_alloc | apply pw_below_drewN | apply below_drew1) | exact HB.out))) : w.heap.size ≤ gb139)); have n3_ := Aside0.mk ((by rw [hg]; exact (below_size (by repeat (first | (with_reducible first | exact HB.out | apply below_alloc | apply pw_below_drewN | apply below_drew1) | exact HB.out))) : w.heap.size ≤ gb139)); clear HB; have HB := n0_; have BK139 := n1_; have GW139 := n2_; have GE139 := n3_; clear n0_ n1_ n2_ n3_; clear hb hbox hg)))
  (try simp only [Act.put, List.setIfInBounds_toArray, List.set_cons_zero, List.set_cons_succ])
  go_cut [25] (fun v25 wc => ∃ (kq : Nat) (x25_2 : Bool), v25 = .bool x25_2 ∧ Aside0 (marlineref10_Get.j0 kq l1 0 x25_2 a0_0 a0_1 a0_2 a0_3 a0_4 a0_5 a0_6 = some (r1, r2, r3)) ∧ Aside0 (kq ≤ k) ∧ Aside0 (wc.heap[gb139]? = some (.cells #[.bool a0_0, .bool a0_1, .bool a0_2, .bool a0_3, .int .u32 a0_4, .int .u32 a0_5, .int .i64 a0_6] 24 (0, 0))) ∧ Aside0 (Below w.heap.size w wc))
  case first =>
    have H := HC3.out
    clear HC3
    by_cases c5 : (l1.length : Int) ≥ 2
    · rw [if_pos c5] at H
      have c5b0 : decide (2 ≤ (l1.length : Int)) = true := decide_eq_true c5
      have c5b1 : decide (2 ≤ l1.length) = true := decide_eq_true (by omega)
      clear c5
      (first | rw [c5b0] | (simp only [i64_w, i32_w]; rw [c5b0]) | skip)
      by_cases c6 : 0 < (l1.length : Int)
      · rw [if_pos c6] at H
        have c6b0 : decide (0 < (l1.length : Int)) = true := decide_eq_true c6
        have c6b1 : decide (0 < l1.length) = true := decide_eq_true (by omega)
        clear c6
        by_cases c7 : (rd l1 0) = 255
        · rw [if_pos c7] at H
          have c7b0 : ((rd l1 0) == 255) = true := beq_iff_eq.mpr c7
          have c7b1 : ((rd l1 0) != 255) = false := bne_eq_false_iff_eq.mpr c7
          clear c7
          by_cases c8 : 1 < (l1.length : Int)
          · rw [if_pos c8] at H
            have c8b0 : decide (1 < (l1.length : Int)) = true := decide_eq_true c8
            have c8b1 : decide (1 < l1.length) = true := decide_eq_true (by omega)
            clear c8
            have H' := Aside0.mk H
            clear H
            have p140 : 0 ≤ (0 : Int) := (by omega)
            have q140 : 0 < (l1.length : Int) := of_decide_eq_true (by first | (with_reducible assumption) | assumption)
            obtain ⟨ad140, e140, hx140_0⟩ := Kd.at_int HR1.out 0 p140 q140
            cases e140
            have qi140 : (0 < l1.length) = True := eq_true (by omega)
            (try rw [show ((0 : Int)).toNat = 0 from rfl] at hx140_0)
            (try rw [Addr.add_zero'] at hx140_0)
            replace hx140_0 := (HB.out.cell (World.block_lt_of_cell? w _ hx140_0)).trans hx140_0
            replace p140 := eq_true p140
            replace q140 := eq_true q140
            have p141 : 0 ≤ (1 : Int) := (by omega)
            have q141 : 1 < (l1.length : Int) := of_decide_eq_true (by first | (with_reducible assumption) | assumption)
            obtain ⟨ad141, e141, hx141_0⟩ := Kd.at_int HR1.out 1 p141 q141
            obtain rfl : ad140 = ad141 := (by injection e141)
            (try simp only [show (1 : Int).toNat = 1 from rfl, Nat.reduceMul, Nat.reduceEqDiff, Go.Addr.add, ↓reduceIte] at hx141_0)
            have qi141 : (1 < l1.length) = True := eq_true (by omega)
            (try rw [show ((1 : Int)).toNat = 1 from rfl] at hx141_0)
            replace hx141_0 := (HB.out.cell (World.block_lt_of_cell? w _ hx141_0)).trans hx141_0
            replace p141 := eq_true p141
            replace q141 := eq_true q141
            go_wp2
            repeat (go_quiet (fail); try go_wp2)
            go_meet
            case rel => exact ⟨_, (((rd l1 1) == 3)), (by first | rfl | (simp; done) | (simp [*]; done)), H', ⟨by first | omega | exact Nat.le_refl _⟩, ⟨by (with_reducible repeat (first | refine blk_drewN ?_ _ | refine blk_drew ?_ | refine blk_alloc ?_ _)); exact BK139.out⟩, ⟨by repeat (first | (with_reducible first | exact HB.out | apply below_alloc | apply pw_below_drewN | apply below_drew1 | refine below_set ?_ GE139.out) | exact HB.out)⟩⟩
          · rw [if_neg c8] at H
            exact absurd H (by simp)
        · rw [if_neg c7] at H
          have c7b0 : ((rd l1 0) == 255) = false := beq_eq_false_iff_ne.mpr c7
          have c7b1 : ((rd l1 0) != 255) = true := bne_iff_ne.mpr c7
          have H' := Aside0.mk H
          clear H
          have p140 : 0 ≤ (0 : Int) := (by omega)
          have q140 : 0 < (l1.length : Int) := of_decide_eq_true (by first | (with_reducible assumption) | assumption)
          obtain ⟨ad140, e140, hx140_0⟩ := Kd.at_int HR1.out 0 p140 q140
          cases e140
          have qi140 : (0 < l1.length) = True := eq_true (by omega)
          (try rw [show ((0 : Int)).toNat = 0 from rfl] at hx140_0)
          (try rw [Addr.add_zero'] at hx140_0)
          replace hx140_0 := (HB.out.cell (World.block_lt_of_cell? w _ hx140_0)).trans hx140_0
          replace p140 := eq_true p140
          replace q140 := eq_true q140
          go_wp2
          repeat (go_quiet (fail); try go_wp2)
          go_meet
          case rel => exact ⟨_, (false), (by first | rfl | (simp; done) | (simp [*]; done)), H', ⟨by first | omega | exact Nat.le_refl _⟩, ⟨by (with_reducible repeat (first | refine blk_drewN ?_ _ | refine blk_drew ?_ | refine blk_alloc ?_ _)); exact BK139.out⟩, ⟨by repeat (first | (with_reducible first | exact HB.out | apply below_alloc | apply pw_below_drewN | apply below_drew1 | refine below_set ?_ GE139.out) | exact HB.out)⟩⟩
      · rw [if_neg c6] at H
        exact absurd H (by simp)
    · rw [if_neg c5] at H
      have c5b0 : decide (2 ≤ (l1.length : Int)) = false := decide_eq_false c5
      have c5b1 : decide (2 ≤ l1.length) = false := decide_eq_false (by omega)
      clear c5
      (first | rw [c5b0] | (simp only [i64_w, i32_w]; rw [c5b0]) | skip)
      have H' := Aside0.mk H
      clear H
      go_wp2
      repeat (go_quiet (fail); try go_wp2)
      go_meet
      case rel => exact ⟨_, (false), (by first | rfl | (simp; done) | (simp [*]; done)), H', ⟨by first | omega | exact Nat.le_refl _⟩, ⟨by (with_reducible repeat (first | refine blk_drewN ?_ _ | refine blk_drew ?_ | refine blk_alloc ?_ _)); exact BK139.out⟩, ⟨by repeat (first | (with_reducible first | exact HB.out | apply below_alloc | apply pw_below_drewN | apply below_drew1 | refine below_set ?_ GE139.out) | exact HB.out)⟩⟩
  case rest =>
    clear HC3
    try clear c1
    try clear p1
    try clear q1
    try clear hx1
    try clear qi1
    try clear p2
    try clear c3
    try clear c5
    try clear c5b0
    try clear c5b1
    try clear c6
    try clear c6b0
    try clear c6b1
    try clear c7
    try clear c7b0
    try clear c7b1
    try clear c8
    try clear c8b0
    try clear c8b1
    try clear hx140_0
    try clear hx141_0
    try clear p140
    try clear p141
    try clear q140
    try clear q141
    obtain ⟨kq, x25_2, rfl, HA, HJ2, BK139, HB⟩ := hcut
    cases kq with
    | zero => exact absurd HA.out (by simp [marlineref10_Get.j0])
    | succ kj2 =>
      have H := HA.out
      clear HA
      simp only [marlineref10_Get.j0] at H
      by_cases c9 : x25_2 = true
      · subst c9
        have H1 : (if 2 ≤ (l1.length : Int) then ((marlineref09_Get.f (l1.drop 2) a0_3).bind fun bt143 => (if bt143.2.2 = 0 then (some (bt143.1, wrap64 (2 + bt143.2.1), 0)) else (some (0, 0, 7)))) else (none)) = some (r1, r2, r3) := by rw [if_pos rfl] at H; exact H
        clear H
        have H := H1
        clear H1
        by_cases c10 : 2 ≤ (l1.length : Int)
        · rw [if_pos c10] at H
          have c10b0 := eq_true c10
          have c10b1 : decide (2 ≤ (l1.length : Int)) = true := decide_eq_true c10
          clear c10
          replace H := Option.bind_eq_some_iff.mp H
          obtain ⟨⟨t143, t144, t145⟩, A110, H⟩ := H
          replace H : (if t145 = 0 then (some (t143, wrap64 (2 + t144), 0)) else (some (0, 0, 7))) = some (r1, r2, r3) := H
          have A11 := Aside0.mk A110
          clear A110
          by_cases c12 : t145 = 0
          · rw [if_pos c12] at H
            have c12b0 : (t145 == 0) = true := beq_iff_eq.mpr c12
            have c12b1 : (t145 != 0) = false := bne_eq_false_iff_eq.mpr c12
            clear c12
            simp only [Option.some.injEq, Prod.mk.injEq] at H
            obtain ⟨rfl, rfl, rfl⟩ := H
            obtain ⟨i013, hi013, _, hsz13, _⟩ := info_parts info5
            obtain ⟨A13, hcut13, hA13, hC13⟩ := print_drop_of (P := Tryd.prog) (Value.int .u8) 0 35 5 .i64 Tryd.underlying35 hi013 hsz13 A1 c1 l1 2 (by omega) (of_decide_eq_true (by first | (with_reducible assumption) | assumption)) HC1.out
            have HR142 := Aside0.mk (Kd.C_of_reads (h1 := fun _ => rfl) (hA13 _ (Kd.reads_of_C HR1.out)))
            have HC142 := Aside0.mk hC13
            clear hA13 hC13 hi013 hsz13
            have hcz14_0 : wc.cell? ⟨gb139, 0, none⟩ = some (.bool a0_0) := (blk_cell BK139.out 0).trans rfl
            have hcz14_1 : wc.cell? ⟨gb139, 1, none⟩ = some (.bool a0_1) := (blk_cell BK139.out 1).trans rfl
            have hcz14_2 : wc.cell? ⟨gb139, 2, none⟩ = some (.bool a0_2) := (blk_cell BK139.out 2).trans rfl
            have hcz14_3 : wc.cell? ⟨gb139, 3, none⟩ = some (.bool a0_3) := (blk_cell BK139.out 3).trans rfl
            have hcz14_4 : wc.cell? ⟨gb139, 4, none⟩ = some (.int .u32 a0_4) := (blk_cell BK139.out 4).trans rfl
            have hcz14_5 : wc.cell? ⟨gb139, 5, none⟩ = some (.int .u32 a0_5) := (blk_cell BK139.out 5).trans rfl
            have hcz14_6 : wc.cell? ⟨gb139, 6, none⟩ = some (.int .i64 a0_6) := (blk_cell BK139.out 6).trans rfl
            have hfz14_0 := blk_frozen BK139.out 0
            have hfz14_1 := blk_frozen BK139.out 1
            have hfz14_2 := blk_frozen BK139.out 2
            have hfz14_3 := blk_frozen BK139.out 3
            have hfz14_4 := blk_frozen BK139.out 4
            have hfz14_5 := blk_frozen BK139.out 5
            have hfz14_6 := blk_frozen BK139.out 6
            go_wp2_with (first | (go_at_call 59; refine calls_of_args (args' := #[.slice A13 (l1.drop 2).length (c1 - 2), .bool a0_3]) (by first | (rw [show (l1.drop 2).length = (l1.length - 2) from List.length_drop] <;> rfl) |  rfl) ?_; (with_reducible refine (marlineref09_Get.calls _ _ (l1.drop 2) a0_3 t143 t144 t145 _ ?side1 ?side2 A11.out).mono ?_); (case side1 => repeat (first | exact (Kd.C_below HR142.out HB.out) | (with_reducible refine Kd.C_alloc ?_ _) | (with_reducible refine Kd.C_drewN ?_ _) | (with_reducible refine Kd.C_drew ?_))); (case side2 => exact HC142.out); rintro e w' ⟨rfl, ⟨nd, rfl⟩⟩; (try first | exact ⟨rfl, _, World.drewN_drewN _ _ _⟩ | exact ⟨rfl, _, Eq.trans (World.drewN_drewN _ _ _) (congrArg (World.drewN _) (Nat.add_assoc _ _ _))⟩)))
            repeat (go_quiet (first | (go_at_call 59; refine calls_of_args (args' := #[.slice A13 (l1.drop 2).length (c1 - 2), .bool a0_3]) (by first | (rw [show (l1.drop 2).length = (l1.length - 2) from List.length_drop] <;> rfl) |  rfl) ?_; (with_reducible refine (marlineref09_Get.calls _ _ (l1.drop 2) a0_3 t143 t144 t145 _ ?side1 ?side2 A11.out).mono ?_); (case side1 => repeat (first | exact (Kd.C_below HR142.out HB.out) | (with_reducible refine Kd.C_alloc ?_ _) | (with_reducible refine Kd.C_drewN ?_ _) | (with_reducible refine Kd.C_drew ?_))); (case side2 => exact HC142.out); rintro e w' ⟨rfl, ⟨nd, rfl⟩⟩; (try first | exact ⟨rfl, _, World.drewN_drewN _ _ _⟩ | exact ⟨rfl, _, Eq.trans (World.drewN_drewN _ _ _) (congrArg (World.drewN _) (Nat.add_assoc _ _ _))⟩))); try go_wp2_with (first | (go_at_call 59; refine calls_of_args (args' := #[.slice A13 (l1.drop 2).length (c1 - 2), .bool a0_3]) (by first | (rw [show (l1.drop 2).length = (l1.length - 2) from List.length_drop] <;> rfl) |  rfl) ?_; (with_reducible refine (marlineref09_Get.calls _ _ (l1.drop 2) a0_3 t143 t144 t145 _ ?side1 ?side2 A11.out).mono ?_); (case side1 => repeat (first | exact (Kd.C_below HR142.out HB.out) | (with_reducible refine Kd.C_alloc ?_ _) | (with_reducible refine Kd.C_drewN ?_ _) | (with_reducible refine Kd.C_drew ?_))); (case side2 => exact HC142.out); rintro e w' ⟨rfl, ⟨nd, rfl⟩⟩; (try first | exact ⟨rfl, _, World.drewN_drewN _ _ _⟩ | exact ⟨rfl, _, Eq.trans (World.drewN_drewN _ _ _) (congrArg (World.drewN _) (Nat.add_assoc _ _ _))⟩))))
            go_ret3
            exact ⟨by first | rfl | (simp [errW_none, errW_some] <;> rfl) | (simp [*, errW_none, errW_some] <;> rfl), by repeat (first | (with_reducible first | exact HB.out | apply below_alloc | apply pw_below_drewN | apply below_drew1 | refine below_set ?_ GE139.out) | exact HB.out)⟩
          · rw [if_neg c12] at H
            have c12b0 : (t145 == 0) = false := beq_eq_false_iff_ne.mpr c12
            have c12b1 : (t145 != 0) = true := bne_iff_ne.mpr c12
            simp only [Option.some.injEq, Prod.mk.injEq] at H
            obtain ⟨rfl, rfl, rfl⟩ := H
            obtain ⟨i015, hi015, _, hsz15, _⟩ := info_parts info5
            obtain ⟨A15, hcut15, hA15, hC15⟩ := print_drop_of (P := Tryd.prog) (Value.int .u8) 0 35 5 .i64 Tryd.underlying35 hi015 hsz15 A1 c1 l1 2 (by omega) (of_decide_eq_true (by first | (with_reducible assumption) | assumption)) HC1.out
            have HR142 := Aside0.mk (Kd.C_of_reads (h1 := fun _ => rfl) (hA15 _ (Kd.reads_of_C HR1.out)))
            have HC142 := Aside0.mk hC15
            clear hA15 hC15 hi015 hsz15
            have hcz16_0 : wc.cell? ⟨gb139, 0, none⟩ = some (.bool a0_0) := (blk_cell BK139.out 0).trans rfl
            have hcz16_1 : wc.cell? ⟨gb139, 1, none⟩ = some (.bool a0_1) := (blk_cell BK139.out 1).trans rfl
            have hcz16_2 : wc.cell? ⟨gb139, 2, none⟩ = some (.bool a0_2) := (blk_cell BK139.out 2).trans rfl
            have hcz16_3 : wc.cell? ⟨gb139, 3, none⟩ = some (.bool a0_3) := (blk_cell BK139.out 3).trans rfl
            have hcz16_4 : wc.cell? ⟨gb139, 4, none⟩ = some (.int .u32 a0_4) := (blk_cell BK139.out 4).trans rfl
            have hcz16_5 : wc.cell? ⟨gb139, 5, none⟩ = some (.int .u32 a0_5) := (blk_cell BK139.out 5).trans rfl
            have hcz16_6 : wc.cell? ⟨gb139, 6, none⟩ = some (.int .i64 a0_6) := (blk_cell BK139.out 6).trans rfl
            have hfz16_0 := blk_frozen BK139.out 0
            have hfz16_1 := blk_frozen BK139.out 1
            have hfz16_2 := blk_frozen BK139.out 2
            have hfz16_3 := blk_frozen BK139.out 3
            have hfz16_4 := blk_frozen BK139.out 4
            have hfz16_5 := blk_frozen BK139.out 5
            have hfz16_6 := blk_frozen BK139.out 6
            go_wp2_with (first | (go_at_call 59; refine calls_of_args (args' := #[.slice A15 (l1.drop 2).length (c1 - 2), .bool a0_3]) (by first | (rw [show (l1.drop 2).length = (l1.length - 2) from List.length_drop] <;> rfl) |  rfl) ?_; (with_reducible refine (marlineref09_Get.calls _ _ (l1.drop 2) a0_3 t143 t144 t145 _ ?side1 ?side2 A11.out).mono ?_); (case side1 => repeat (first | exact (Kd.C_below HR142.out HB.out) | (with_reducible refine Kd.C_alloc ?_ _) | (with_reducible refine Kd.C_drewN ?_ _) | (with_reducible refine Kd.C_drew ?_))); (case side2 => exact HC142.out); rintro e w' ⟨rfl, ⟨nd, rfl⟩⟩; (try first | exact ⟨rfl, _, World.drewN_drewN _ _ _⟩ | exact ⟨rfl, _, Eq.trans (World.drewN_drewN _ _ _) (congrArg (World.drewN _) (Nat.add_assoc _ _ _))⟩)))
            repeat (go_quiet (first | (go_at_call 59; refine calls_of_args (args' := #[.slice A15 (l1.drop 2).length (c1 - 2), .bool a0_3]) (by first | (rw [show (l1.drop 2).length = (l1.length - 2) from List.length_drop] <;> rfl) |  rfl) ?_; (with_reducible refine (marlineref09_Get.calls _ _ (l1.drop 2) a0_3 t143 t144 t145 _ ?side1 ?side2 A11.out).mono ?_); (case side1 => repeat (first | exact (Kd.C_below HR142.out HB.out) | (with_reducible refine Kd.C_alloc ?_ _) | (with_reducible refine Kd.C_drewN ?_ _) | (with_reducible refine Kd.C_drew ?_))); (case side2 => exact HC142.out); rintro e w' ⟨rfl, ⟨nd, rfl⟩⟩; (try first | exact ⟨rfl, _, World.drewN_drewN _ _ _⟩ | exact ⟨rfl, _, Eq.trans (World.drewN_drewN _ _ _) (congrArg (World.drewN _) (Nat.add_assoc _ _ _))⟩))); try go_wp2_with (first | (go_at_call 59; refine calls_of_args (args' := #[.slice A15 (l1.drop 2).length (c1 - 2), .bool a0_3]) (by first | (rw [show (l1.drop 2).length = (l1.length - 2) from List.length_drop] <;> rfl) |  rfl) ?_; (with_reducible refine (marlineref09_Get.calls _ _ (l1.drop 2) a0_3 t143 t144 t145 _ ?side1 ?side2 A11.out).mono ?_); (case side1 => repeat (first | exact (Kd.C_below HR142.out HB.out) | (with_reducible refine Kd.C_alloc ?_ _) | (with_reducible refine Kd.C_drewN ?_ _) | (with_reducible refine Kd.C_drew ?_))); (case side2 => exact HC142.out); rintro e w' ⟨rfl, ⟨nd, rfl⟩⟩; (try first | exact ⟨rfl, _, World.drewN_drewN _ _ _⟩ | exact ⟨rfl, _, Eq.trans (World.drewN_drewN _ _ _) (congrArg (World.drewN _) (Nat.add_assoc _ _ _))⟩))))
            go_ret3
            exact ⟨by first | rfl | (simp [errW_none, errW_some] <;> rfl) | (simp [*, errW_none, errW_some] <;> rfl), by repeat (first | (with_reducible first | exact HB.out | apply below_alloc | apply pw_below_drewN | apply below_drew1 | refine below_set ?_ GE139.out) | exact HB.out)⟩
        · rw [if_neg c10] at H
          exact absurd H (by simp)
      · replace c9 := Bool.eq_false_iff.mpr c9
        subst c9
        have H1 : (if a0_2 = true then (if 0 ≤ 0 then (if 0 ≤ (l1.length : Int) then ((marlineref09_Get.f (l1.drop (0 : Int).toNat) a0_3).bind fun bt147 => (if bt147.2.2 = 0 then (some (bt147.1, wrap64 (0 + bt147.2.1), 0)) else (some (0, 0, 7)))) else (none)) else (none)) else (some (0, 0, 7))) = some (r1, r2, r3) := by rw [if_neg (show ¬ (false = true) by decide)] at H; exact H
        clear H
        have H := H1
        clear H1
        by_cases c17 : a0_2 = true
        · subst c17
          have H1 : (if 0 ≤ 0 then (if 0 ≤ (l1.length : Int) then ((marlineref09_Get.f (l1.drop (0 : Int).toNat) a0_3).bind fun bt147 => (if bt147.2.2 = 0 then (some (bt147.1, wrap64 (0 + bt147.2.1), 0)) else (some (0, 0, 7)))) else (none)) else (none)) = some (r1, r2, r3) := by rw [if_pos rfl] at H; exact H
          clear H
          have H := H1
          clear H1
          by_cases c18 : 0 ≤ 0
          · rw [if_pos c18] at H
            have c18b0 := eq_true c18
            have c18b1 : decide (0 ≤ 0) = true := decide_eq_true c18
            clear c18
            by_cases c19 : 0 ≤ (l1.length : Int)
            · rw [if_pos c19] at H
              have c19b0 := eq_true c19
              have c19b1 : decide (0 ≤ (l1.length : Int)) = true := decide_eq_true c19
              clear c19
              replace H := Option.bind_eq_some_iff.mp H
              obtain ⟨⟨t147, t148, t149⟩, A200, H⟩ := H
              replace H : (if t149 = 0 then (some (t147, wrap64 (0 + t148), 0)) else (some (0, 0, 7))) = some (r1, r2, r3) := H
              have A20 := Aside0.mk A200
              clear A200
              by_cases c21 : t149 = 0
              · rw [if_pos c21] at H
                have c21b0 : (t149 == 0) = true := beq_iff_eq.mpr c21
                have c21b1 : (t149 != 0) = false := bne_eq_false_iff_eq.mpr c21
                clear c21
                simp only [Option.some.injEq, Prod.mk.injEq] at H
                obtain ⟨rfl, rfl, rfl⟩ := H
                have hcz22_0 : wc.cell? ⟨gb139, 0, none⟩ = some (.bool a0_0) := (blk_cell BK139.out 0).trans rfl
                have hcz22_1 : wc.cell? ⟨gb139, 1, none⟩ = some (.bool a0_1) := (blk_cell BK139.out 1).trans rfl
                have hcz22_2 : wc.cell? ⟨gb139, 2, none⟩ = some (.bool true) := (blk_cell BK139.out 2).trans rfl
                have hcz22_3 : wc.cell? ⟨gb139, 3, none⟩ = some (.bool a0_3) := (blk_cell BK139.out 3).trans rfl
                have hcz22_4 : wc.cell? ⟨gb139, 4, none⟩ = some (.int .u32 a0_4) := (blk_cell BK139.out 4).trans rfl
                have hcz22_5 : wc.cell? ⟨gb139, 5, none⟩ = some (.int .u32 a0_5) := (blk_cell BK139.out 5).trans rfl
                have hcz22_6 : wc.cell? ⟨gb139, 6, none⟩ = some (.int .i64 a0_6) := (blk_cell BK139.out 6).trans rfl
                have hfz22_0 := blk_frozen BK139.out 0
                have hfz22_1 := blk_frozen BK139.out 1
                have hfz22_2 := blk_frozen BK139.out 2
                have hfz22_3 := blk_frozen BK139.out 3
                have hfz22_4 := blk_frozen BK139.out 4
                have hfz22_5 := blk_frozen BK139.out 5
                have hfz22_6 := blk_frozen BK139.out 6
                obtain ⟨i023, hi023, _, hsz23, _⟩ := info_parts info5
                obtain ⟨A23, hcut23, hA23, hC23⟩ := print_drop_of (P := Tryd.prog) (Value.int .u8) 0 35 5 .i64 Tryd.underlying35 hi023 hsz23 A1 c1 l1 0 (by omega) (of_decide_eq_true (by first | (with_reducible assumption) | assumption)) HC1.out
                have HR146 := Aside0.mk (Kd.C_of_reads (h1 := fun _ => rfl) (hA23 _ (Kd.reads_of_C HR1.out)))
                have HC146 := Aside0.mk hC23
                clear hA23 hC23 hi023 hsz23
                go_wp2_with (first | (go_at_call 59; refine calls_of_args (args' := #[.slice A23 (l1.drop (0 : Int).toNat).length (c1 - 0), .bool a0_3]) (by first | (rw [show (l1.drop (0 : Int).toNat).length = (l1.length - 0) from List.length_drop] <;> rfl) |  rfl) ?_; (with_reducible refine (marlineref09_Get.calls _ _ (l1.drop (0 : Int).toNat) a0_3 t147 t148 t149 _ ?side1 ?side2 A20.out).mono ?_); (case side1 => repeat (first | exact (Kd.C_below HR146.out HB.out) | (with_reducible refine Kd.C_alloc ?_ _) | (with_reducible refine Kd.C_drewN ?_ _) | (with_reducible refine Kd.C_drew ?_))); (case side2 => exact HC146.out); rintro e w' ⟨rfl, ⟨nd, rfl⟩⟩; (try first | exact ⟨rfl, _, World.drewN_drewN _ _ _⟩ | exact ⟨rfl, _, Eq.trans (World.drewN_drewN _ _ _) (congrArg (World.drewN _) (Nat.add_assoc _ _ _))⟩)))
                repeat (go_quiet (first | (go_at_call 59; refine calls_of_args (args' := #[.slice A23 (l1.drop (0 : Int).toNat).length (c1 - 0), .bool a0_3]) (by first | (rw [show (l1.drop (0 : Int).toNat).length = (l1.length - 0) from List.length_drop] <;> rfl) |  rfl) ?_; (with_reducible refine (marlineref09_Get.calls _ _ (l1.drop (0 : Int).toNat) a0_3 t147 t148 t149 _ ?side1 ?side2 A20.out).mono ?_); (case side1 => repeat (first | exact (Kd.C_below HR146.out HB.out) | (with_reducible refine Kd.C_alloc ?_ _) | (with_reducible refine Kd.C_drewN ?_ _) | (with_reducible refine Kd.C_drew ?_))); (case side2 => exact HC146.out); rintro e w' ⟨rfl, ⟨nd, rfl⟩⟩; (try first | exact ⟨rfl, _, World.drewN_drewN _ _ _⟩ | exact ⟨rfl, _, Eq.trans (World.drewN_drewN _ _ _) (congrArg (World.drewN _) (Nat.add_assoc _ _ _))⟩))); try go_wp2_with (first | (go_at_call 59; refine calls_of_args (args' := #[.slice A23 (l1.drop (0 : Int).toNat).length (c1 - 0), .bool a0_3]) (by first | (rw [show (l1.drop (0 : Int).toNat).length = (l1.length - 0) from List.length_drop] <;> rfl) |  rfl) ?_; (with_reducible refine (marlineref09_Get.calls _ _ (l1.drop (0 : Int).toNat) a0_3 t147 t148 t149 _ ?side1 ?side2 A20.out).mono ?_); (case side1 => repeat (first | exact (Kd.C_below HR146.out HB.out) | (with_reducible refine Kd.C_alloc ?_ _) | (with_reducible refine Kd.C_drewN ?_ _) | (with_reducible refine Kd.C_drew ?_))); (case side2 => exact HC146.out); rintro e w' ⟨rfl, ⟨nd, rfl⟩⟩; (try first | exact ⟨rfl, _, World.drewN_drewN _ _ _⟩ | exact ⟨rfl, _, Eq.trans (World.drewN_drewN _ _ _) (congrArg (World.drewN _) (Nat.add_assoc _ _ _))⟩))))
                go_ret3
                exact ⟨by first | rfl | (simp [errW_none, errW_some] <;> rfl) | (simp [*, errW_none, errW_some] <;> rfl), by repeat (first | (with_reducible first | exact HB.out | apply below_alloc | apply pw_below_drewN | apply below_drew1 | refine below_set ?_ GE139.out) | exact HB.out)⟩
              · rw [if_neg c21] at H
                have c21b0 : (t149 == 0) = false := beq_eq_false_iff_ne.mpr c21
                have c21b1 : (t149 != 0) = true := bne_iff_ne.mpr c21
                simp only [Option.some.injEq, Prod.mk.injEq] at H
                obtain ⟨rfl, rfl, rfl⟩ := H
                have hcz24_0 : wc.cell? ⟨gb139, 0, none⟩ = some (.bool a0_0) := (blk_cell BK139.out 0).trans rfl
                have hcz24_1 : wc.cell? ⟨gb139, 1, none⟩ = some (.bool a0_1) := (blk_cell BK139.out 1).trans rfl
                have hcz24_2 : wc.cell? ⟨gb139, 2, none⟩ = some (.bool true) := (blk_cell BK139.out 2).trans rfl
                have hcz24_3 : wc.cell? ⟨gb139, 3, none⟩ = some (.bool a0_3) := (blk_cell BK139.out 3).trans rfl
                have hcz24_4 : wc.cell? ⟨gb139, 4, none⟩ = some (.int .u32 a0_4) := (blk_cell BK139.out 4).trans rfl
                have hcz24_5 : wc.cell? ⟨gb139, 5, none⟩ = some (.int .u32 a0_5) := (blk_cell BK139.out 5).trans rfl
                have hcz24_6 : wc.cell? ⟨gb139, 6, none⟩ = some (.int .i64 a0_6) := (blk_cell BK139.out 6).trans rfl
                have hfz24_0 := blk_frozen BK139.out 0
                have hfz24_1 := blk_frozen BK139.out 1
                have hfz24_2 := blk_frozen BK139.out 2
                have hfz24_3 := blk_frozen BK139.out 3
                have hfz24_4 := blk_frozen BK139.out 4
                have hfz24_5 := blk_frozen BK139.out 5
                have hfz24_6 := blk_frozen BK139.out 6
                obtain ⟨i025, hi025, _, hsz25, _⟩ := info_parts info5
                obtain ⟨A25, hcut25, hA25, hC25⟩ := print_drop_of (P := Tryd.prog) (Value.int .u8) 0 35 5 .i64 Tryd.underlying35 hi025 hsz25 A1 c1 l1 0 (by omega) (of_decide_eq_true (by first | (with_reducible assumption) | assumption)) HC1.out
                have HR146 := Aside0.mk (Kd.C_of_reads (h1 := fun _ => rfl) (hA25 _ (Kd.reads_of_C HR1.out)))
                have HC146 := Aside0.mk hC25
                clear hA25 hC25 hi025 hsz25
                go_wp2_with (first | (go_at_call 59; refine calls_of_args (args' := #[.slice A25 (l1.drop (0 : Int).toNat).length (c1 - 0), .bool a0_3]) (by first | (rw [show (l1.drop (0 : Int).toNat).length = (l1.length - 0) from List.length_drop] <;> rfl) |  rfl) ?_; (with_reducible refine (marlineref09_Get.calls _ _ (l1.drop (0 : Int).toNat) a0_3 t147 t148 t149 _ ?side1 ?side2 A20.out).mono ?_); (case side1 => repeat (first | exact (Kd.C_below HR146.out HB.out) | (with_reducible refine Kd.C_alloc ?_ _) | (with_reducible refine Kd.C_drewN ?_ _) | (with_reducible refine Kd.C_drew ?_))); (case side2 => exact HC146.out); rintro e w' ⟨rfl, ⟨nd, rfl⟩⟩; (try first | exact ⟨rfl, _, World.drewN_drewN _ _ _⟩ | exact ⟨rfl, _, Eq.trans (World.drewN_drewN _ _ _) (congrArg (World.drewN _) (Nat.add_assoc _ _ _))⟩)))
                repeat (go_quiet (first | (go_at_call 59; refine calls_of_args (args' := #[.slice A25 (l1.drop (0 : Int).toNat).length (c1 - 0), .bool a0_3]) (by first | (rw [show (l1.drop (0 : Int).toNat).length = (l1.length - 0) from List.length_drop] <;> rfl) |  rfl) ?_; (with_reducible refine (marlineref09_Get.calls _ _ (l1.drop (0 : Int).toNat) a0_3 t147 t148 t149 _ ?side1 ?side2 A20.out).mono ?_); (case side1 => repeat (first | exact (Kd.C_below HR146.out HB.out) | (with_reducible refine Kd.C_alloc ?_ _) | (with_reducible refine Kd.C_drewN ?_ _) | (with_reducible refine Kd.C_drew ?_))); (case side2 => exact HC146.out); rintro e w' ⟨rfl, ⟨nd, rfl⟩⟩; (try first | exact ⟨rfl, _, World.drewN_drewN _ _ _⟩ | exact ⟨rfl, _, Eq.trans (World.drewN_drewN _ _ _) (congrArg (World.drewN _) (Nat.add_assoc _ _ _))⟩))); try go_wp2_with (first | (go_at_call 59; refine calls_of_args (args' := #[.slice A25 (l1.drop (0 : Int).toNat).length (c1 - 0), .bool a0_3]) (by first | (rw [show (l1.drop (0 : Int).toNat).length = (l1.length - 0) from List.length_drop] <;> rfl) |  rfl) ?_; (with_reducible refine (marlineref09_Get.calls _ _ (l1.drop (0 : Int).toNat) a0_3 t147 t148 t149 _ ?side1 ?side2 A20.out).mono ?_); (case side1 => repeat (first | exact (Kd.C_below HR146.out HB.out) | (with_reducible refine Kd.C_alloc ?_ _) | (with_reducible refine Kd.C_drewN ?_ _) | (with_reducible refine Kd.C_drew ?_))); (case side2 => exact HC146.out); rintro e w' ⟨rfl, ⟨nd, rfl⟩⟩; (try first | exact ⟨rfl, _, World.drewN_drewN _ _ _⟩ | exact ⟨rfl, _, Eq.trans (World.drewN_drewN _ _ _) (congrArg (World.drewN _) (Nat.add_assoc _ _ _))⟩))))
                go_ret3
                exact ⟨by first | rfl | (simp [errW_none, errW_some] <;> rfl) | (simp [*, errW_none, errW_some] <;> rfl), by repeat (first | (with_reducible first | exact HB.out | apply below_alloc | apply pw_below_drewN | apply below_drew1 | refine below_set ?_ GE139.out) | exact HB.out)⟩
            · rw [if_neg c19] at H
              exact absurd H (by simp)
          · rw [if_neg c18] at H
            exact absurd H (by simp)
        · replace c17 := Bool.eq_false_iff.mpr c17
          subst c17
          have H1 : (some (0, 0, 7)) = some (r1, r2, r3) := by rw [if_neg (show ¬ (false = true) by decide)] at H; exact H
          clear H
          have H := H1
          clear H1
          simp only [Option.some.injEq, Prod.mk.injEq] at H
          obtain ⟨rfl, rfl, rfl⟩ := H
          have hcz26_0 : wc.cell? ⟨gb139, 0, none⟩ = some (.bool a0_0) := (blk_cell BK139.out 0).trans rfl
          have hcz26_1 : wc.cell? ⟨gb139, 1, none⟩ = some (.bool a0_1) := (blk_cell BK139.out 1).trans rfl
          have hcz26_2 : wc.cell? ⟨gb139, 2, none⟩ = some (.bool false) := (blk_cell BK139.out 2).trans rfl
          have hcz26_3 : wc.cell? ⟨gb139, 3, none⟩ = some (.bool a0_3) := (blk_cell BK139.out 3).trans rfl
          have hcz26_4 : wc.cell? ⟨gb139, 4, none⟩ = some (.int .u32 a0_4) := (blk_cell BK139.out 4).trans rfl
          have hcz26_5 : wc.cell? ⟨gb139, 5, none⟩ = some (.int .u32 a0_5) := (blk_cell BK139.out 5).trans rfl
          have hcz26_6 : wc.cell? ⟨gb139, 6, none⟩ = some (.int .i64 a0_6) := (blk_cell BK139.out 6).trans rfl
          have hfz26_0 := blk_frozen BK139.out 0
          have hfz26_1 := blk_frozen BK139.out 1
          have hfz26_2 := blk_frozen BK139.out 2
          have hfz26_3 := blk_frozen BK139.out 3
          have hfz26_4 := blk_frozen BK139.out 4
          have hfz26_5 := blk_frozen BK139.out 5
          have hfz26_6 := blk_frozen BK139.out 6
          go_wp2
          repeat (go_quiet (fail); try go_wp2)
          go_ret3
          exact ⟨by first | rfl | (simp [errW_none, errW_some] <;> rfl) | (simp [*, errW_none, errW_some] <;> rfl), by repeat (first | (with_reducible first | exact HB.out | apply below_alloc | apply pw_below_drewN | apply below_drew1 | refine below_set ?_ GE139.out) | exact HB.out)⟩

/-! ### marlineref09_Put: function 61 -/
def marlineref09_Put.f (a0 : Int) (a1 : Bool) : Option (List Int) := if a1 = true then (if a0 < 256 then (some (([(a0) % 256] : List Int))) else (some (([(wrap64 (Int.tdiv a0 256)) % 256, (Int.tmod a0 256) % 256] : List Int)))) else (some (([(wrap64 (Int.tdiv a0 256)) % 256, (Int.tmod a0 256) % 256] : List Int)))
set_option maxHeartbeats 8000000 in
set_option maxRecDepth 100000 in
theorem marlineref09_Put.calls (a0 : Int) (a1 : Bool) (r : List Int) (w : World) (h : marlineref09_Put.f a0 a1 = some r) :
    Calls Tryd.prog 61 #[.int .i64 a0, .bool a1] w fun e w' => ∃ v0_ : Value, e = .returned (v0_) ∧ Kd.R (Kd.int .u8) 5 w' w.heap.size (fun _ => True) v0_ r ∧ Below w.heap.size w w' := by
  have HB := Aside0.mk (Below.refl w.heap.size w)
  have H : (if a1 = true then (if a0 < 256 then (some (([(a0) % 256] : List Int))) else (some (([(wrap64 (Int.tdiv a0 256)) % 256, (Int.tmod a0 256) % 256] : List Int)))) else (some (([(wrap64 (Int.tdiv a0 256)) % 256, (Int.tmod a0 256) % 256] : List Int)))) = some r := h
  clear h
  by_cases c3 : a1 = true
  · subst c3
    have H1 : (if a0 < 256 then (some (([(a0) % 256] : List Int))) else (some (([(wrap64 (Int.tdiv a0 256)) % 256, (Int.tmod a0 256) % 256] : List Int)))) = some r := by rw [if_pos rfl] at H; exact H
    clear H
    have H := H1
    clear H1
    by_cases c4 : a0 < 256
    · rw [if_pos c4] at H
      have c4b0 : decide (a0 < 256) = true := decide_eq_true c4
      clear c4
      obtain ⟨y150, hy150⟩ : ∃ y_ : List Int, y_ = (([(a0) % 256] : List Int)) := ⟨_, rfl⟩
      replace H : (some y150) = some r := by first | (rw [hy150]; with_reducible exact H) | (have H2_ := (Option.bind_some _ _).symm.trans H; rw [hy150]; with_reducible exact H2_) | (have H2_ := (Option.bind_some _ _).symm.trans H; with_reducible exact H2_) | with_reducible exact H | (rw [hy150]; exact H) | exact H
      have Ny150 := Aside0.mk hy150
      clear hy150
      obtain rfl := Option.some.inj H
      go_enter Tryd.func61, Tryd.ntmps61
      go_wp2_with (first | ((with_reducible refine gate_dst (N := 12) rfl ?_); refine Kd.R_lit (Kd.int .u8) _ 5 ?hg (N := 12) ?hd (xs := ([(a0) % 256] : List Int)) (inner := [.int .u8 ((a0) % 256)]) (ok := fun _ => True) (okp := fun _ => True) ?hr ?hp (fun _ hk => hk) trivial (Below.refl _ _) (Nat.le_refl _) (by simp) ?_; (case hd => rfl); (case hg => rfl); (case hr => first | (go_simp; done) | (go_simp; rfl)); (case hp => exact (Reps.one (show Kd.M (Kd.int .u8) _ _ _ ((a0) % 256) [.int .u8 ((a0) % 256)] from rfl) (Reps.none _ _))); intro v151 w5 ho6 hb hg_ hnew_; clear hg_ hnew_; (first | rw [← Ny150.out] at ho6 | (simp only [Int.reduceToNat] at ho6; rw [← Ny150.out] at ho6)); have n0_ := Aside0.mk (Kd.R_lower ho6 (below_size (by repeat (first | (with_reducible first | exact HB.out | apply below_alloc | apply pw_below_drewN | apply below_drew1) | exact HB.out)))); have n1_ := Aside0.mk (below_step (by repeat (first | (with_reducible first | exact HB.out | apply below_alloc | apply pw_below_drewN | apply below_drew1) | exact HB.out)) hb); clear HB; have HO152 := n0_; have HB := n1_; clear n0_ n1_; clear hb ho6))
      go_ret
      exact ⟨_, by first | rfl | (simp [errW_none, errW_some] <;> rfl) | (simp [*, errW_none, errW_some] <;> rfl), by (with_reducible repeat (first | apply Kd.R_alloc | apply Kd.R_drewN | apply Kd.R_drew)); exact HO152.out, by repeat (first | (with_reducible first | exact HB.out | apply below_alloc | apply pw_below_drewN | apply below_drew1) | exact HB.out)⟩
    · rw [if_neg c4] at H
      have c4b0 : decide (a0 < 256) = false := decide_eq_false c4
      clear c4
      obtain ⟨y153, hy153⟩ : ∃ y_ : List Int, y_ = (([(wrap64 (Int.tdiv a0 256)) % 256, (Int.tmod a0 256) % 256] : List Int)) := ⟨_, rfl⟩
      replace H : (some y153) = some r := by first | (rw [hy153]; with_reducible exact H) | (have H2_ := (Option.bind_some _ _).symm.trans H; rw [hy153]; with_reducible exact H2_) | (have H2_ := (Option.bind_some _ _).symm.trans H; with_reducible exact H2_) | with_reducible exact H | (rw [hy153]; exact H) | exact H
      have Ny153 := Aside0.mk hy153
      clear hy153
      obtain rfl := Option.some.inj H
      go_enter Tryd.func61, Tryd.ntmps61
      go_wp2_with (first | ((with_reducible refine gate_dst (N := 19) rfl ?_); refine Kd.R_lit (Kd.int .u8) _ 5 ?hg (N := 19) ?hd (xs := ([(wrap64 (Int.tdiv a0 256)) % 256, (Int.tmod a0 256) % 256] : List Int)) (inner := [.int .u8 ((wrap64 (Int.tdiv a0 256)) % 256), .int .u8 ((Int.tmod a0 256) % 256)]) (ok := fun _ => True) (okp := fun _ => True) ?hr ?hp (fun _ hk => hk) trivial (Below.refl _ _) (Nat.le_refl _) (by simp) ?_; (case hd => rfl); (case hg => rfl); (case hr => first | (go_simp; done) | (go_simp; rfl)); (case hp => exact (Reps.one (show Kd.M (Kd.int .u8) _ _ _ ((wrap64 (Int.tdiv a0 256)) % 256) [.int .u8 ((wrap64 (Int.tdiv a0 256)) % 256)] from rfl) (Reps.one (show Kd.M (Kd.int .u8) _ _ _ ((Int.tmod a0 256) % 256) [.int .u8 ((Int.tmod a0 256) % 256)] from rfl) (Reps.none _ _)))); intro v154 w7 ho8 hb hg_ hnew_; clear hg_ hnew_; (first | rw [← Ny153.out] at ho8 | (simp only [Int.reduceToNat] at ho8; rw [← Ny153.out] at ho8)); have n0_ := Aside0.mk (Kd.R_lower ho8 (below_size (by repeat (first | (with_reducible first | exact HB.out | apply below_alloc | apply pw_below_drewN | apply below_drew1) | exact HB.out)))); have n1_ := Aside0.mk (below_step (by repeat (first | (with_reducible first | exact HB.out | apply below_alloc | apply pw_below_drewN | apply below_drew1) | exact HB.out)) hb); clear HB; have HO155 := n0_; have HB := n1_; clear n0_ n1_; clear hb ho8))
      go_ret
      exact ⟨_, by first | rfl | (simp [errW_none, errW_some] <;> rfl) | (simp [*, errW_none, errW_some] <;> rfl), by (with_reducible repeat (first | apply Kd.R_alloc | apply Kd.R_drewN | apply Kd.R_drew)); exact HO155.out, by repeat (first | (with_reducible first | exact HB.out | apply below_alloc | apply pw_below_drewN | apply below_drew1) | exact HB.out)⟩
  · replace c3 := Bool.eq_false_iff.mpr c3
    subst c3
    have H1 : (some (([(wrap64 (Int.tdiv a0 256)) % 256, (Int.tmod a0 256) % 256] : List Int))) = some r := by rw [if_neg (show ¬ (false = true) by decide)] at H; exact H
    clear H
    have H := H1
    clear H1
    obtain ⟨y156, hy156⟩ : ∃ y_ : List Int, y_ = (([(wrap64 (Int.tdiv a0 256)) % 256, (Int.tmod a0 256) % 256] : List Int)) := ⟨_, rfl⟩
    replace H : (some y156) = some r := by first | (rw [hy156]; with_reducible exact H) | (have H2_ := (Option.bind_some _ _).symm.trans H; rw [hy156]; with_reducible exact H2_) | (have H2_ := (Option.bind_some _ _).symm.trans H; with_reducible exact H2_) | with_reducible exact H | (rw [hy156]; exact H) | exact H
    have Ny156 := Aside0.mk hy156
    clear hy156
    obtain rfl := Option.some.inj H
    go_enter Tryd.func61, Tryd.ntmps61
    go_wp2_with (first | ((with_reducible refine gate_dst (N := 19) rfl ?_); refine Kd.R_lit (Kd.int .u8) _ 5 ?hg (N := 19) ?hd (xs := ([(wrap64 (Int.tdiv a0 256)) % 256, (Int.tmod a0 256) % 256] : List Int)) (inner := [.int .u8 ((wrap64 (Int.tdiv a0 256)) % 256), .int .u8 ((Int.tmod a0 256) % 256)]) (ok := fun _ => True) (okp := fun _ => True) ?hr ?hp (fun _ hk => hk) trivial (Below.refl _ _) (Nat.le_refl _) (by simp) ?_; (case hd => rfl); (case hg => rfl); (case hr => first | (go_simp; done) | (go_simp; rfl)); (case hp => exact (Reps.one (show Kd.M (Kd.int .u8) _ _ _ ((wrap64 (Int.tdiv a0 256)) % 256) [.int .u8 ((wrap64 (Int.tdiv a0 256)) % 256)] from rfl) (Reps.one (show Kd.M (Kd.int .u8) _ _ _ ((Int.tmod a0 256) % 256) [.int .u8 ((Int.tmod a0 256) % 256)] from rfl) (Reps.none _ _)))); intro v157 w9 ho10 hb hg_ hnew_; clear hg_ hnew_; (first | rw [← Ny156.out] at ho10 | (simp only [Int.reduceToNat] at ho10; rw [← Ny156.out] at ho10)); have n0_ := Aside0.mk (Kd.R_lower ho10 (below_size (by repeat (first | (with_reducible first | exact HB.out | apply below_alloc | apply pw_below_drewN | apply below_drew1) | exact HB.out)))); have n1_ := Aside0.mk (below_step (by repeat (first | (with_reducible first | exact HB.out | apply below_alloc | apply pw_below_drewN | apply below_drew1) | exact HB.out)) hb); clear HB; have HO158 := n0_; have HB := n1_; clear n0_ n1_; clear hb ho10))
    go_ret
    exact ⟨_, by first | rfl | (simp [errW_none, errW_some] <;> rfl) | (simp [*, errW_none, errW_some] <;> rfl), by (with_reducible repeat (first | apply Kd.R_alloc | apply Kd.R_drewN | apply Kd.R_drew)); exact HO158.out, by repeat (first | (with_reducible first | exact HB.out | apply below_alloc | apply pw_below_drewN | apply below_drew1) | exact HB.out)⟩

end Go.Proofs.YtggpejjfgphihaaDoor.H
