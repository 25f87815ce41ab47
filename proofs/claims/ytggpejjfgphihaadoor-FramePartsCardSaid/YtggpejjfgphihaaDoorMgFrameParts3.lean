/- Laid together by wip/prune.py: what the claim needs of the session's texts and of the print program's words. -/
import Derived.Test.YtggpejjfgphihaaDoorMgFrameParts2
section
namespace Go.Proofs.YtggpejjfgphihaaDoor.L
open Go.Proofs.YtggpejjfgphihaaDoor.Given Go.Proofs.YtggpejjfgphihaaDoor.D Go.Proofs.YtggpejjfgphihaaDoor.H Go.Proofs.YtggpejjfgphihaaDoor.E Go.RowKit Go.Proofs.YtggpejjfgphihaaDoorW.PrintWords Go.Proofs.YtggpejjfgphihaaDoorW.PrintLast Go.Proofs.YtggpejjfgphihaaDoorW.PrintMore
attribute [local go_sem] max2_int min2_int max_two min_two max_three min_three max_four min_four
open Go.Proofs.YtggpejjfgphihaaDoor.C (config_Most.f config_Most.calls marlineref08_Check.f marlineref08_Check.calls)
set_option linter.unusedVariables false
set_option linter.unusedSimpArgs false
mutual
def marlinelaw11_FrameParts.j0 : Nat → List Int → Bool → Bool → Bool → Bool → Bool → Int → Int → Int → Option (Bool)
  | 0, _, _, _, _, _, _, _, _, _ => none
  | k + 1, x1, x26, x122000, x122001, x122002, x122003, x122004, x122005, x122006 => if x26 = true then ((marlinelaw11_speaks.f k).bind fun t124 => (some t124)) else ((some (([] : List Int) : List Int)).bind fun y126 => (if y126.length + x1.length < 140737488355328 then ((some (y126 ++ x1 : List Int)).bind fun y129 => ((fcs_Trailer.f k x122001 x1).bind fun t132 => (if y129.length + t132.length < 140737488355328 then ((some (y129 ++ t132 : List Int)).bind fun y135 => ((frame_Parse.f k x122000 x122001 x122002 x122003 x122004 x122005 x122006 y135).bind fun bt138 => (if bt138.2.2 = 0 then ((frame_Build.f k x122000 x122001 x122002 x122003 x122004 x122005 x122006 bt138.1 bt138.2.1).bind fun bt143 => (if bt143.2 = 0 then ((marlineref09_Right.f (wrap64 (bt138.1))).bind fun t147 => (if t147 = true then (marlinelaw11_FrameParts.j1 k y135 bt138.1 bt138.2.1 bt143.1 (decide ((bt138.2.1.length : Int) > x122006)) x122000 x122001 x122002 x122003 x122004 x122005 x122006) else (marlinelaw11_FrameParts.j1 k y135 bt138.1 bt138.2.1 bt143.1 true x122000 x122001 x122002 x122003 x122004 x122005 x122006))) else (marlinelaw11_FrameParts.j1 k y135 bt138.1 bt138.2.1 bt143.1 true x122000 x122001 x122002 x122003 x122004 x122005 x122006))) else (if bt138.1 = 0 then (if (bt138.2.1.length : Int) = 0 then (some (bt138.2.2 != 6)) else (some false)) else (some false))))) else (none)))) else (none)))
def marlinelaw11_FrameParts.j1 : Nat → List Int → Int → List Int → List Int → Bool → Bool → Bool → Bool → Bool → Int → Int → Int → Option (Bool)
  | 0, _, _, _, _, _, _, _, _, _, _, _, _ => none
  | k + 1, x6, x7, x8, x10, x78, x126000, x126001, x126002, x126003, x126004, x126005, x126006 => if x78 = true then (some false) else ((frame_Parse.f k x126000 x126001 x126002 x126003 x126004 x126005 x126006 x10).bind fun bt148 => (if bt148.2.2 = 0 then (if bt148.1 = x7 then ((marlineref01_Equal.f k bt148.2.1 x8).bind fun t153 => (if t153 = true then (if (x10.length : Int) ≤ (x6.length : Int) then (some true) else (some (x7 == 49185))) else (some false))) else (some false)) else (some false)))
end
def marlinelaw11_FrameParts.f (k : Nat) (a0_0 : Bool) (a0_1 : Bool) (a0_2 : Bool) (a0_3 : Bool) (a0_4 : Int) (a0_5 : Int) (a0_6 : Int) (l1 : List Int) : Option (Bool) := (marlinelaw11_speaks.f k).bind fun t122 => (if t122 = true then ((marlineref08_Check.f a0_0 a0_1 a0_2 a0_3 a0_4 a0_5 a0_6).bind fun t123 => (if t123 = 0 then (marlinelaw11_FrameParts.j0 k l1 (decide ((l1.length : Int) > 400)) a0_0 a0_1 a0_2 a0_3 a0_4 a0_5 a0_6) else (marlinelaw11_FrameParts.j0 k l1 true a0_0 a0_1 a0_2 a0_3 a0_4 a0_5 a0_6))) else (marlinelaw11_FrameParts.j0 k l1 true a0_0 a0_1 a0_2 a0_3 a0_4 a0_5 a0_6))
def marlinelaw11_FrameParts.T4 : Bool × List (List Nat × List Nat) := (true, [([], []), ([], []), ([0, 1], [0, 1]), ([], []), ([3], [3]), ([], []), ([4, 5, 2], [4, 5]), ([2, 6, 6], [2, 6]), ([7, 7, 0, 1, 2, 3, 4, 5, 6, 7], [7])])
def marlinelaw11_FrameParts.B4 : List Nat := [0, 0, 3, 0, 8, 0, 63, 127, 255]
theorem marlinelaw11_FrameParts.tab4 : rtab .any (opsOf Tryd.f14 4) = marlinelaw11_FrameParts.T4 := by kernel_rfl
theorem marlinelaw11_FrameParts.bits4 : waitsOk marlinelaw11_FrameParts.T4.2 marlinelaw11_FrameParts.B4 = true := by kernel_rfl
set_option maxHeartbeats 8000000 in
set_option maxRecDepth 100000 in
theorem marlinelaw11_FrameParts.calls (k : Nat) (a0_0 : Bool) (a0_1 : Bool) (a0_2 : Bool) (a0_3 : Bool) (a0_4 : Int) (a0_5 : Int) (a0_6 : Int) (A1 : Option Addr) (c1 : Nat) (l1 : List Int) (r : Bool) (w : World) (hr1 : Kd.C (Kd.int .u8) w A1 l1.length l1) (hc1 : l1.length ≤ c1) (hgF : GF w) (hgH : GH w) (h : marlinelaw11_FrameParts.f k a0_0 a0_1 a0_2 a0_3 a0_4 a0_5 a0_6 l1 = some r) :
    Calls Tryd.prog 14 #[.agg #[.bool a0_0, .bool a0_1, .bool a0_2, .bool a0_3, .int .u32 a0_4, .int .u32 a0_5, .int .i64 a0_6], .slice A1 l1.length c1] w fun e w' => e = .returned (.bool r) ∧ Below w.heap.size w w' := by
  have hu24 := Tryd.underlying24
  have hu26 := Tryd.underlying26
  have HGF := Aside0.mk hgF
  clear hgF
  have HGH := Aside0.mk hgH
  clear hgH
  have HR1 := Aside0.mk hr1
  have HC1 := Aside0.mk hc1
  clear hr1 hc1
  have HB := Aside0.mk (Below.refl w.heap.size w)
  have H : ((marlinelaw11_speaks.f k).bind fun t122 => (if t122 = true then ((marlineref08_Check.f a0_0 a0_1 a0_2 a0_3 a0_4 a0_5 a0_6).bind fun t123 => (if t123 = 0 then (marlinelaw11_FrameParts.j0 k l1 (decide ((l1.length : Int) > 400)) a0_0 a0_1 a0_2 a0_3 a0_4 a0_5 a0_6) else (marlinelaw11_FrameParts.j0 k l1 true a0_0 a0_1 a0_2 a0_3 a0_4 a0_5 a0_6))) else (marlinelaw11_FrameParts.j0 k l1 true a0_0 a0_1 a0_2 a0_3 a0_4 a0_5 a0_6))) = some r := h
  clear h
  have HC3 := Aside0.mk H
  clear H
  go_enter Tryd.func14, Tryd.ntmps14
  go_upto_region 1 with (first | ((with_reducible refine gate_dst (N := 2) rfl ?_); (try (refine gate_guard (by rfl) ?_; dsimp only)); refine box_event ?hg (N := 2) ?hd (cs := #[.bool a0_0, .bool a0_1, .bool a0_2, .bool a0_3, .int .u32 a0_4, .int .u32 a0_5, .int .i64 a0_6]) (t := 24) ?hr ?_; (case hd => rfl); (case hg => rfl); (case hr => first | (go_simp; done) | (go_simp; rfl)); intro gb121 hg w4 hbox hb; have n0_ := Aside0.mk (below_step (by repeat (first | (with_reducible first | exact HB.out | apply below_alloc | apply pw_below_drewN | apply below_drew1) | exact HB.out)) hb); have n1_ := Aside0.mk (hbox); have n2_ := Aside0.mk ((by rw [hg]; exact (below_size (by repeat (first | (with_reducible first | exact HB.out | apply below_alloc | apply pw_below_drewN | apply below_drew1) | exact HB.out))) : w.heap.size ≤ gb121)); have n3_ := Aside0.mk ((by rw [hg]; exact (below_size (by repeat (first | (with_reducible first | exact HB.out | apply below_alloc | apply pw_below_drewN | apply below_drew1) | exact HB.out))) : w.heap.size ≤ gb121)); clear HB; have HB := n0_; have BK121 := n1_; have GW121 := n2_; have GE121 := n3_; clear n0_ n1_ n2_ n3_; clear hb hbox hg))
  (try simp only [Act.put, List.setIfInBounds_toArray, List.set_cons_zero, List.set_cons_succ])
  go_cut [26] (fun v26 wc => ∃ (kq : Nat) (x26_2 : Bool), v26 = .bool x26_2 ∧ Aside0 (marlinelaw11_FrameParts.j0 kq l1 x26_2 a0_0 a0_1 a0_2 a0_3 a0_4 a0_5 a0_6 = some r) ∧ Aside0 (kq ≤ k) ∧ Aside0 (wc.heap[gb121]? = some (.cells #[.bool a0_0, .bool a0_1, .bool a0_2, .bool a0_3, .int .u32 a0_4, .int .u32 a0_5, .int .i64 a0_6] 24 (0, 0))) ∧ Aside0 (Below w.heap.size w wc))
  case first =>
    have H := HC3.out
    clear HC3
    replace H := Option.bind_eq_some_iff.mp H
    obtain ⟨t122, A50, H⟩ := H
    replace H : (if t122 = true then ((marlineref08_Check.f a0_0 a0_1 a0_2 a0_3 a0_4 a0_5 a0_6).bind fun t123 => (if t123 = 0 then (marlinelaw11_FrameParts.j0 k l1 (decide ((l1.length : Int) > 400)) a0_0 a0_1 a0_2 a0_3 a0_4 a0_5 a0_6) else (marlinelaw11_FrameParts.j0 k l1 true a0_0 a0_1 a0_2 a0_3 a0_4 a0_5 a0_6))) else (marlinelaw11_FrameParts.j0 k l1 true a0_0 a0_1 a0_2 a0_3 a0_4 a0_5 a0_6)) = some r := H
    have A5 := Aside0.mk A50
    clear A50
    by_cases c6 : t122 = true
    · subst c6
      have H1 : ((marlineref08_Check.f a0_0 a0_1 a0_2 a0_3 a0_4 a0_5 a0_6).bind fun t123 => (if t123 = 0 then (marlinelaw11_FrameParts.j0 k l1 (decide ((l1.length : Int) > 400)) a0_0 a0_1 a0_2 a0_3 a0_4 a0_5 a0_6) else (marlinelaw11_FrameParts.j0 k l1 true a0_0 a0_1 a0_2 a0_3 a0_4 a0_5 a0_6))) = some r := by rw [if_pos rfl] at H; exact H
      clear H
      have H := H1
      clear H1
      replace H := Option.bind_eq_some_iff.mp H
      obtain ⟨t123, A70, H⟩ := H
      replace H : (if t123 = 0 then (marlinelaw11_FrameParts.j0 k l1 (decide ((l1.length : Int) > 400)) a0_0 a0_1 a0_2 a0_3 a0_4 a0_5 a0_6) else (marlinelaw11_FrameParts.j0 k l1 true a0_0 a0_1 a0_2 a0_3 a0_4 a0_5 a0_6)) = some r := H
      have A7 := Aside0.mk A70
      clear A70
      by_cases c8 : t123 = 0
      · rw [if_pos c8] at H
        have c8b0 : (t123 == 0) = true := beq_iff_eq.mpr c8
        have c8b1 : (t123 != 0) = false := bne_eq_false_iff_eq.mpr c8
        clear c8
        (first | rw [c8b0] | (simp only [i64_w, i32_w]; rw [c8b0]) | skip)
        have H' := Aside0.mk H
        clear H
        go_wp2_with (first | ((with_reducible refine gate_callee (f := 47) rfl ?_); refine goesL_ (some 15) rfl rfl Tryd.func47 (by kernel_rfl) rfl #[] rfl (by (try simp only [List.map_toArray, List.map_cons, List.map_nil]); first | done | rfl | (simp only [List.length_drop, List.length_take]; rfl)) ?_; (with_reducible refine (marlinelaw11_speaks.calls k  true _ ?side1 ?side2 A5.out).mono ?_); (case side1 => repeat (first | exact (GF_below HGF.out HB.out) | (with_reducible refine GF_alloc ?_ _) | (with_reducible refine GF_drewN ?_ _) | (with_reducible refine GF_drew ?_))); (case side2 => repeat (first | exact (GH_below HGH.out HB.out) | (with_reducible refine GH_alloc ?_ _) | (with_reducible refine GH_drewN ?_ _) | (with_reducible refine GH_drew ?_))); rintro e w9 ⟨rfl, hb⟩; refine ⟨_, rfl, ?_⟩; have n0_ := Aside0.mk (blk_below (g := gb121) (o := .cells #[.bool a0_0, .bool a0_1, .bool a0_2, .bool a0_3, .int .u32 a0_4, .int .u32 a0_5, .int .i64 a0_6] 24 (0, 0)) (by (with_reducible repeat (first | refine blk_drewN ?_ _ | refine blk_drew ?_ | refine blk_alloc ?_ _)); exact BK121.out) hb); have n1_ := Aside0.mk (below_step (by repeat (first | (with_reducible first | exact HB.out | apply below_alloc | apply pw_below_drewN | apply below_drew1 | refine below_set ?_ GE121.out) | exact HB.out)) hb); clear BK121; clear HB; have BK121 := n0_; have HB := n1_; clear n0_ n1_; (try clear hb); (try clear hb2); (try clear hk); (try clear hi); have hcz10_0 : w9.cell? ⟨gb121, 0, none⟩ = some (.bool a0_0) := (blk_cell BK121.out 0).trans rfl; have hcz10_1 : w9.cell? ⟨gb121, 1, none⟩ = some (.bool a0_1) := (blk_cell BK121.out 1).trans rfl; have hcz10_2 : w9.cell? ⟨gb121, 2, none⟩ = some (.bool a0_2) := (blk_cell BK121.out 2).trans rfl; have hcz10_3 : w9.cell? ⟨gb121, 3, none⟩ = some (.bool a0_3) := (blk_cell BK121.out 3).trans rfl; have hcz10_4 : w9.cell? ⟨gb121, 4, none⟩ = some (.int .u32 a0_4) := (blk_cell BK121.out 4).trans rfl; have hcz10_5 : w9.cell? ⟨gb121, 5, none⟩ = some (.int .u32 a0_5) := (blk_cell BK121.out 5).trans rfl; have hcz10_6 : w9.cell? ⟨gb121, 6, none⟩ = some (.int .i64 a0_6) := (blk_cell BK121.out 6).trans rfl; have hfz10_0 := blk_frozen BK121.out 0; have hfz10_1 := blk_frozen BK121.out 1; have hfz10_2 := blk_frozen BK121.out 2; have hfz10_3 := blk_frozen BK121.out 3; have hfz10_4 := blk_frozen BK121.out 4; have hfz10_5 := blk_frozen BK121.out 5; have hfz10_6 := blk_frozen BK121.out 6) | (go_at_call 19; (with_reducible refine (marlineref08_Check.calls a0_0 a0_1 a0_2 a0_3 a0_4 a0_5 a0_6 t123 _ A7.out).mono ?_); rintro e w11 ⟨rfl, hb⟩; have n0_ := Aside0.mk (blk_below (g := gb121) (o := .cells #[.bool a0_0, .bool a0_1, .bool a0_2, .bool a0_3, .int .u32 a0_4, .int .u32 a0_5, .int .i64 a0_6] 24 (0, 0)) (by (with_reducible repeat (first | refine blk_drewN ?_ _ | refine blk_drew ?_ | refine blk_alloc ?_ _)); exact BK121.out) hb); have n1_ := Aside0.mk (below_step (by repeat (first | (with_reducible first | exact HB.out | apply below_alloc | apply pw_below_drewN | apply below_drew1 | refine below_set ?_ GE121.out) | exact HB.out)) hb); clear BK121; clear HB; have BK121 := n0_; have HB := n1_; clear n0_ n1_; (try clear hb); (try clear hb2); (try clear hk); (try clear hi)))
        go_meet
        case rel => exact ⟨_, (decide ((l1.length : Int) > 400)), (by first | rfl | (simp; done) | (simp [*]; done)), H', ⟨by first | omega | exact Nat.le_refl _⟩, ⟨by (with_reducible repeat (first | refine blk_drewN ?_ _ | refine blk_drew ?_ | refine blk_alloc ?_ _)); exact BK121.out⟩, ⟨by repeat (first | (with_reducible first | exact HB.out | apply below_alloc | apply pw_below_drewN | apply below_drew1 | refine below_set ?_ GE121.out) | exact HB.out)⟩⟩
      · rw [if_neg c8] at H
        have c8b0 : (t123 == 0) = false := beq_eq_false_iff_ne.mpr c8
        have c8b1 : (t123 != 0) = true := bne_iff_ne.mpr c8
        (first | rw [c8b0] | (simp only [i64_w, i32_w]; rw [c8b0]) | skip)
        have H' := Aside0.mk H
        clear H
        go_wp2_with (first | ((with_reducible refine gate_callee (f := 47) rfl ?_); refine goesL_ (some 15) rfl rfl Tryd.func47 (by kernel_rfl) rfl #[] rfl (by (try simp only [List.map_toArray, List.map_cons, List.map_nil]); first | done | rfl | (simp only [List.length_drop, List.length_take]; rfl)) ?_; (with_reducible refine (marlinelaw11_speaks.calls k  true _ ?side1 ?side2 A5.out).mono ?_); (case side1 => repeat (first | exact (GF_below HGF.out HB.out) | (with_reducible refine GF_alloc ?_ _) | (with_reducible refine GF_drewN ?_ _) | (with_reducible refine GF_drew ?_))); (case side2 => repeat (first | exact (GH_below HGH.out HB.out) | (with_reducible refine GH_alloc ?_ _) | (with_reducible refine GH_drewN ?_ _) | (with_reducible refine GH_drew ?_))); rintro e w12 ⟨rfl, hb⟩; refine ⟨_, rfl, ?_⟩; have n0_ := Aside0.mk (blk_below (g := gb121) (o := .cells #[.bool a0_0, .bool a0_1, .bool a0_2, .bool a0_3, .int .u32 a0_4, .int .u32 a0_5, .int .i64 a0_6] 24 (0, 0)) (by (with_reducible repeat (first | refine blk_drewN ?_ _ | refine blk_drew ?_ | refine blk_alloc ?_ _)); exact BK121.out) hb); have n1_ := Aside0.mk (below_step (by repeat (first | (with_reducible first | exact HB.out | apply below_alloc | apply pw_below_drewN | apply below_drew1 | refine below_set ?_ GE121.out) | exact HB.out)) hb); clear BK121; clear HB; have BK121 := n0_; have HB := n1_; clear n0_ n1_; (try clear hb); (try clear hb2); (try clear hk); (try clear hi); have hcz13_0 : w12.cell? ⟨gb121, 0, none⟩ = some (.bool a0_0) := (blk_cell BK121.out 0).trans rfl; have hcz13_1 : w12.cell? ⟨gb121, 1, none⟩ = some (.bool a0_1) := (blk_cell BK121.out 1).trans rfl; have hcz13_2 : w12.cell? ⟨gb121, 2, none⟩ = some (.bool a0_2) := (blk_cell BK121.out 2).trans rfl; have hcz13_3 : w12.cell? ⟨gb121, 3, none⟩ = some (.bool a0_3) := (blk_cell BK121.out 3).trans rfl; have hcz13_4 : w12.cell? ⟨gb121, 4, none⟩ = some (.int .u32 a0_4) := (blk_cell BK121.out 4).trans rfl; have hcz13_5 : w12.cell? ⟨gb121, 5, none⟩ = some (.int .u32 a0_5) := (blk_cell BK121.out 5).trans rfl; have hcz13_6 : w12.cell? ⟨gb121, 6, none⟩ = some (.int .i64 a0_6) := (blk_cell BK121.out 6).trans rfl; have hfz13_0 := blk_frozen BK121.out 0; have hfz13_1 := blk_frozen BK121.out 1; have hfz13_2 := blk_frozen BK121.out 2; have hfz13_3 := blk_frozen BK121.out 3; have hfz13_4 := blk_frozen BK121.out 4; have hfz13_5 := blk_frozen BK121.out 5; have hfz13_6 := blk_frozen BK121.out 6) | (go_at_call 19; (with_reducible refine (marlineref08_Check.calls a0_0 a0_1 a0_2 a0_3 a0_4 a0_5 a0_6 t123 _ A7.out).mono ?_); rintro e w14 ⟨rfl, hb⟩; have n0_ := Aside0.mk (blk_below (g := gb121) (o := .cells #[.bool a0_0, .bool a0_1, .bool a0_2, .bool a0_3, .int .u32 a0_4, .int .u32 a0_5, .int .i64 a0_6] 24 (0, 0)) (by (with_reducible repeat (first | refine blk_drewN ?_ _ | refine blk_drew ?_ | refine blk_alloc ?_ _)); exact BK121.out) hb); have n1_ := Aside0.mk (below_step (by repeat (first | (with_reducible first | exact HB.out | apply below_alloc | apply pw_below_drewN | apply below_drew1 | refine below_set ?_ GE121.out) | exact HB.out)) hb); clear BK121; clear HB; have BK121 := n0_; have HB := n1_; clear n0_ n1_; (try clear hb); (try clear hb2); (try clear hk); (try clear hi)))
        go_meet
        case rel => exact ⟨_, (true), (by first | rfl | (simp; done) | (simp [*]; done)), H', ⟨by first | omega | exact Nat.le_refl _⟩, ⟨by (with_reducible repeat (first | refine blk_drewN ?_ _ | refine blk_drew ?_ | refine blk_alloc ?_ _)); exact BK121.out⟩, ⟨by repeat (first | (with_reducible first | exact HB.out | apply below_alloc | apply pw_below_drewN | apply below_drew1 | refine below_set ?_ GE121.out) | exact HB.out)⟩⟩
    · replace c6 := Bool.eq_false_iff.mpr c6
      subst c6
      have H1 : (marlinelaw11_FrameParts.j0 k l1 true a0_0 a0_1 a0_2 a0_3 a0_4 a0_5 a0_6) = some r := by rw [if_neg (show ¬ (false = true) by decide)] at H; exact H
      clear H
      have H := H1
      clear H1
      have H' := Aside0.mk H
      clear H
      go_wp2_with (first | ((with_reducible refine gate_callee (f := 47) rfl ?_); refine goesL_ (some 15) rfl rfl Tryd.func47 (by kernel_rfl) rfl #[] rfl (by (try simp only [List.map_toArray, List.map_cons, List.map_nil]); first | done | rfl | (simp only [List.length_drop, List.length_take]; rfl)) ?_; (with_reducible refine (marlinelaw11_speaks.calls k  false _ ?side1 ?side2 A5.out).mono ?_); (case side1 => repeat (first | exact (GF_below HGF.out HB.out) | (with_reducible refine GF_alloc ?_ _) | (with_reducible refine GF_drewN ?_ _) | (with_reducible refine GF_drew ?_))); (case side2 => repeat (first | exact (GH_below HGH.out HB.out) | (with_reducible refine GH_alloc ?_ _) | (with_reducible refine GH_drewN ?_ _) | (with_reducible refine GH_drew ?_))); rintro e w15 ⟨rfl, hb⟩; refine ⟨_, rfl, ?_⟩; have n0_ := Aside0.mk (blk_below (g := gb121) (o := .cells #[.bool a0_0, .bool a0_1, .bool a0_2, .bool a0_3, .int .u32 a0_4, .int .u32 a0_5, .int .i64 a0_6] 24 (0, 0)) (by (with_reducible repeat (first | refine blk_drewN ?_ _ | refine blk_drew ?_ | refine blk_alloc ?_ _)); exact BK121.out) hb); have n1_ := Aside0.mk (below_step (by repeat (first | (with_reducible first | exact HB.out | apply below_alloc | apply pw_below_drewN | apply below_drew1 | refine below_set ?_ GE121.out) | exact HB.out)) hb); clear BK121; clear HB; have BK121 := n0_; have HB := n1_; clear n0_ n1_; (try clear hb); (try clear hb2); (try clear hk); (try clear hi)))
      go_meet
      case rel => exact ⟨_, (true), (by first | rfl | (simp; done) | (simp [*]; done)), H', ⟨by first | omega | exact Nat.le_refl _⟩, ⟨by (with_reducible repeat (first | refine blk_drewN ?_ _ | refine blk_drew ?_ | refine blk_alloc ?_ _)); exact BK121.out⟩, ⟨by repeat (first | (with_reducible first | exact HB.out | apply below_alloc | apply pw_below_drewN | apply below_drew1 | refine below_set ?_ GE121.out) | exact HB.out)⟩⟩
  case rest =>
    clear HC3
    try clear c1
    try clear p2
    try clear c4
    try clear c6
    try clear c8
    try clear c8b0
    try clear c8b1
    try clear c14
    try clear hcz10_0
    try clear hcz10_1
    try clear hcz10_2
    try clear hcz10_3
    try clear hcz10_4
    try clear hcz10_5
    try clear hcz10_6
    try clear hcz13_0
    try clear hcz13_1
    try clear hcz13_2
    try clear hcz13_3
    try clear hcz13_4
    try clear hcz13_5
    try clear hcz13_6
    try clear hfz10_0
    try clear hfz10_1
    try clear hfz10_2
    try clear hfz10_3
    try clear hfz10_4
    try clear hfz10_5
    try clear hfz10_6
    try clear hfz13_0
    try clear hfz13_1
    try clear hfz13_2
    try clear hfz13_3
    try clear hfz13_4
    try clear hfz13_5
    try clear hfz13_6
    obtain ⟨kq, x26_2, rfl, HA, HJ2, BK121, HB⟩ := hcut
    cases kq with
    | zero => exact absurd HA.out (by simp [marlinelaw11_FrameParts.j0])
    | succ kj2 =>
      have H := HA.out
      clear HA
      simp only [marlinelaw11_FrameParts.j0] at H
      by_cases c16 : x26_2 = true
      · subst c16
        have H1 : ((marlinelaw11_speaks.f kj2).bind fun t124 => (some t124)) = some r := by rw [if_pos rfl] at H; exact H
        clear H
        have H := H1
        clear H1
        replace H := Option.bind_eq_some_iff.mp H
        obtain ⟨t124, A170, H⟩ := H
        replace H : (some t124) = some r := H
        have A17 := Aside0.mk A170
        clear A170
        obtain rfl := Option.some.inj H
        go_wp2_with (first | ((with_reducible refine gate_callee (f := 47) rfl ?_); refine goesL_ (some 27) rfl rfl Tryd.func47 (by kernel_rfl) rfl #[] rfl (by (try simp only [List.map_toArray, List.map_cons, List.map_nil]); first | done | rfl | (simp only [List.length_drop, List.length_take]; rfl)) ?_; (with_reducible refine (marlinelaw11_speaks.calls kj2  t124 _ ?side1 ?side2 A17.out).mono ?_); (case side1 => repeat (first | exact (GF_below HGF.out HB.out) | (with_reducible refine GF_alloc ?_ _) | (with_reducible refine GF_drewN ?_ _) | (with_reducible refine GF_drew ?_))); (case side2 => repeat (first | exact (GH_below HGH.out HB.out) | (with_reducible refine GH_alloc ?_ _) | (with_reducible refine GH_drewN ?_ _) | (with_reducible refine GH_drew ?_))); rintro e w18 ⟨rfl, hb⟩; refine ⟨_, rfl, ?_⟩; have n0_ := Aside0.mk (blk_below (g := gb121) (o := .cells #[.bool a0_0, .bool a0_1, .bool a0_2, .bool a0_3, .int .u32 a0_4, .int .u32 a0_5, .int .i64 a0_6] 24 (0, 0)) (by (with_reducible repeat (first | refine blk_drewN ?_ _ | refine blk_drew ?_ | refine blk_alloc ?_ _)); exact BK121.out) hb); have n1_ := Aside0.mk (below_step (by repeat (first | (with_reducible first | exact HB.out | apply below_alloc | apply pw_below_drewN | apply below_drew1 | refine below_set ?_ GE121.out) | exact HB.out)) hb); clear BK121; clear HB; have BK121 := n0_; have HB := n1_; clear n0_ n1_; (try clear hb); (try clear hb2); (try clear hk); (try clear hi)))
        go_ret
        exact ⟨by first | rfl | (simp [errW_none, errW_some] <;> rfl) | (simp [*, errW_none, errW_some] <;> rfl), by repeat (first | (with_reducible first | exact HB.out | apply below_alloc | apply pw_below_drewN | apply below_drew1 | refine below_set ?_ GE121.out) | exact HB.out)⟩
      · replace c16 := Bool.eq_false_iff.mpr c16
        subst c16
        have H1 : ((some (([] : List Int) : List Int)).bind fun y126 => (if y126.length + l1.length < 140737488355328 then ((some (y126 ++ l1 : List Int)).bind fun y129 => ((fcs_Trailer.f kj2 a0_1 l1).bind fun t132 => (if y129.length + t132.length < 140737488355328 then ((some (y129 ++ t132 : List Int)).bind fun y135 => ((frame_Parse.f kj2 a0_0 a0_1 a0_2 a0_3 a0_4 a0_5 a0_6 y135).bind fun bt138 => (if bt138.2.2 = 0 then ((frame_Build.f kj2 a0_0 a0_1 a0_2 a0_3 a0_4 a0_5 a0_6 bt138.1 bt138.2.1).bind fun bt143 => (if bt143.2 = 0 then ((marlineref09_Right.f (wrap64 (bt138.1))).bind fun t147 => (if t147 = true then (marlinelaw11_FrameParts.j1 kj2 y135 bt138.1 bt138.2.1 bt143.1 (decide ((bt138.2.1.length : Int) > a0_6)) a0_0 a0_1 a0_2 a0_3 a0_4 a0_5 a0_6) else (marlinelaw11_FrameParts.j1 kj2 y135 bt138.1 bt138.2.1 bt143.1 true a0_0 a0_1 a0_2 a0_3 a0_4 a0_5 a0_6))) else (marlinelaw11_FrameParts.j1 kj2 y135 bt138.1 bt138.2.1 bt143.1 true a0_0 a0_1 a0_2 a0_3 a0_4 a0_5 a0_6))) else (if bt138.1 = 0 then (if (bt138.2.1.length : Int) = 0 then (some (bt138.2.2 != 6)) else (some false)) else (some false))))) else (none)))) else (none))) = some r := by rw [if_neg (show ¬ (false = true) by decide)] at H; exact H
        clear H
        have H := H1
        clear H1
        obtain ⟨y126, hy126⟩ : ∃ y_ : List Int, y_ = (([] : List Int)) := ⟨_, rfl⟩
        replace H : (if y126.length + l1.length < 140737488355328 then ((some (y126 ++ l1 : List Int)).bind fun y129 => ((fcs_Trailer.f kj2 a0_1 l1).bind fun t132 => (if y129.length + t132.length < 140737488355328 then ((some (y129 ++ t132 : List Int)).bind fun y135 => ((frame_Parse.f kj2 a0_0 a0_1 a0_2 a0_3 a0_4 a0_5 a0_6 y135).bind fun bt138 => (if bt138.2.2 = 0 then ((frame_Build.f kj2 a0_0 a0_1 a0_2 a0_3 a0_4 a0_5 a0_6 bt138.1 bt138.2.1).bind fun bt143 => (if bt143.2 = 0 then ((marlineref09_Right.f (wrap64 (bt138.1))).bind fun t147 => (if t147 = true then (marlinelaw11_FrameParts.j1 kj2 y135 bt138.1 bt138.2.1 bt143.1 (decide ((bt138.2.1.length : Int) > a0_6)) a0_0 a0_1 a0_2 a0_3 a0_4 a0_5 a0_6) else (marlinelaw11_FrameParts.j1 kj2 y135 bt138.1 bt138.2.1 bt143.1 true a0_0 a0_1 a0_2 a0_3 a0_4 a0_5 a0_6))) else (marlinelaw11_FrameParts.j1 kj2 y135 bt138.1 bt138.2.1 bt143.1 true a0_0 a0_1 a0_2 a0_3 a0_4 a0_5 a0_6))) else (if bt138.1 = 0 then (if (bt138.2.1.length : Int) = 0 then (some (bt138.2.2 != 6)) else (some false)) else (some false))))) else (none)))) else (none)) = some r := by first | (rw [hy126]; with_reducible exact H) | (have H2_ := (Option.bind_some _ _).symm.trans H; rw [hy126]; with_reducible exact H2_) | (have H2_ := (Option.bind_some _ _).symm.trans H; with_reducible exact H2_) | with_reducible exact H | (rw [hy126]; exact H) | exact H
        have Ny126 := Aside0.mk hy126
        clear hy126
        by_cases c19 : y126.length + l1.length < 140737488355328
        · rw [if_pos c19] at H
          have LMc19 := Aside0.mk c19
          clear c19
          obtain ⟨y129, hy129⟩ : ∃ y_ : List Int, y_ = (y126 ++ l1) := ⟨_, rfl⟩
          replace H : ((fcs_Trailer.f kj2 a0_1 l1).bind fun t132 => (if y129.length + t132.length < 140737488355328 then ((some (y129 ++ t132 : List Int)).bind fun y135 => ((frame_Parse.f kj2 a0_0 a0_1 a0_2 a0_3 a0_4 a0_5 a0_6 y135).bind fun bt138 => (if bt138.2.2 = 0 then ((frame_Build.f kj2 a0_0 a0_1 a0_2 a0_3 a0_4 a0_5 a0_6 bt138.1 bt138.2.1).bind fun bt143 => (if bt143.2 = 0 then ((marlineref09_Right.f (wrap64 (bt138.1))).bind fun t147 => (if t147 = true then (marlinelaw11_FrameParts.j1 kj2 y135 bt138.1 bt138.2.1 bt143.1 (decide ((bt138.2.1.length : Int) > a0_6)) a0_0 a0_1 a0_2 a0_3 a0_4 a0_5 a0_6) else (marlinelaw11_FrameParts.j1 kj2 y135 bt138.1 bt138.2.1 bt143.1 true a0_0 a0_1 a0_2 a0_3 a0_4 a0_5 a0_6))) else (marlinelaw11_FrameParts.j1 kj2 y135 bt138.1 bt138.2.1 bt143.1 true a0_0 a0_1 a0_2 a0_3 a0_4 a0_5 a0_6))) else (if bt138.1 = 0 then (if (bt138.2.1.length : Int) = 0 then (some (bt138.2.2 != 6)) else (some false)) else (some false))))) else (none))) = some r := by first | (rw [hy129]; with_reducible exact H) | (have H2_ := (Option.bind_some _ _).symm.trans H; rw [hy129]; with_reducible exact H2_) | (have H2_ := (Option.bind_some _ _).symm.trans H; with_reducible exact H2_) | with_reducible exact H | (rw [hy129]; exact H) | exact H
          have Ny129 := Aside0.mk hy129
          clear hy129
          replace H := Option.bind_eq_some_iff.mp H
          obtain ⟨t132, A200, H⟩ := H
          replace H : (if y129.length + t132.length < 140737488355328 then ((some (y129 ++ t132 : List Int)).bind fun y135 => ((frame_Parse.f kj2 a0_0 a0_1 a0_2 a0_3 a0_4 a0_5 a0_6 y135).bind fun bt138 => (if bt138.2.2 = 0 then ((frame_Build.f kj2 a0_0 a0_1 a0_2 a0_3 a0_4 a0_5 a0_6 bt138.1 bt138.2.1).bind fun bt143 => (if bt143.2 = 0 then ((marlineref09_Right.f (wrap64 (bt138.1))).bind fun t147 => (if t147 = true then (marlinelaw11_FrameParts.j1 kj2 y135 bt138.1 bt138.2.1 bt143.1 (decide ((bt138.2.1.length : Int) > a0_6)) a0_0 a0_1 a0_2 a0_3 a0_4 a0_5 a0_6) else (marlinelaw11_FrameParts.j1 kj2 y135 bt138.1 bt138.2.1 bt143.1 true a0_0 a0_1 a0_2 a0_3 a0_4 a0_5 a0_6))) else (marlinelaw11_FrameParts.j1 kj2 y135 bt138.1 bt138.2.1 bt143.1 true a0_0 a0_1 a0_2 a0_3 a0_4 a0_5 a0_6))) else (if bt138.1 = 0 then (if (bt138.2.1.length : Int) = 0 then (some (bt138.2.2 != 6)) else (some false)) else (some false))))) else (none)) = some r := H
          have A20 := Aside0.mk A200
          clear A200
          by_cases c21 : y129.length + t132.length < 140737488355328
          · rw [if_pos c21] at H
            have LMc21 := Aside0.mk c21
            clear c21
            obtain ⟨y135, hy135⟩ : ∃ y_ : List Int, y_ = (y129 ++ t132) := ⟨_, rfl⟩
            replace H : ((frame_Parse.f kj2 a0_0 a0_1 a0_2 a0_3 a0_4 a0_5 a0_6 y135).bind fun bt138 => (if bt138.2.2 = 0 then ((frame_Build.f kj2 a0_0 a0_1 a0_2 a0_3 a0_4 a0_5 a0_6 bt138.1 bt138.2.1).bind fun bt143 => (if bt143.2 = 0 then ((marlineref09_Right.f (wrap64 (bt138.1))).bind fun t147 => (if t147 = true then (marlinelaw11_FrameParts.j1 kj2 y135 bt138.1 bt138.2.1 bt143.1 (decide ((bt138.2.1.length : Int) > a0_6)) a0_0 a0_1 a0_2 a0_3 a0_4 a0_5 a0_6) else (marlinelaw11_FrameParts.j1 kj2 y135 bt138.1 bt138.2.1 bt143.1 true a0_0 a0_1 a0_2 a0_3 a0_4 a0_5 a0_6))) else (marlinelaw11_FrameParts.j1 kj2 y135 bt138.1 bt138.2.1 bt143.1 true a0_0 a0_1 a0_2 a0_3 a0_4 a0_5 a0_6))) else (if bt138.1 = 0 then (if (bt138.2.1.length : Int) = 0 then (some (bt138.2.2 != 6)) else (some false)) else (some false)))) = some r := by first | (rw [hy135]; with_reducible exact H) | (have H2_ := (Option.bind_some _ _).symm.trans H; rw [hy135]; with_reducible exact H2_) | (have H2_ := (Option.bind_some _ _).symm.trans H; with_reducible exact H2_) | with_reducible exact H | (rw [hy135]; exact H) | exact H
            have Ny135 := Aside0.mk hy135
            clear hy135
            replace H := Option.bind_eq_some_iff.mp H
            obtain ⟨⟨t138, t139, t142⟩, A220, H⟩ := H
            replace H : (if t142 = 0 then ((frame_Build.f kj2 a0_0 a0_1 a0_2 a0_3 a0_4 a0_5 a0_6 t138 t139).bind fun bt143 => (if bt143.2 = 0 then ((marlineref09_Right.f (wrap64 (t138))).bind fun t147 => (if t147 = true then (marlinelaw11_FrameParts.j1 kj2 y135 t138 t139 bt143.1 (decide ((t139.length : Int) > a0_6)) a0_0 a0_1 a0_2 a0_3 a0_4 a0_5 a0_6) else (marlinelaw11_FrameParts.j1 kj2 y135 t138 t139 bt143.1 true a0_0 a0_1 a0_2 a0_3 a0_4 a0_5 a0_6))) else (marlinelaw11_FrameParts.j1 kj2 y135 t138 t139 bt143.1 true a0_0 a0_1 a0_2 a0_3 a0_4 a0_5 a0_6))) else (if t138 = 0 then (if (t139.length : Int) = 0 then (some (t142 != 6)) else (some false)) else (some false))) = some r := H
            have A22 := Aside0.mk A220
            clear A220
            by_cases c23 : t142 = 0
            · rw [if_pos c23] at H
              have c23b0 : (t142 == 0) = true := beq_iff_eq.mpr c23
              have c23b1 : (t142 != 0) = false := bne_eq_false_iff_eq.mpr c23
              clear c23
              replace H := Option.bind_eq_some_iff.mp H
              obtain ⟨⟨t143, t146⟩, A240, H⟩ := H
              replace H : (if t146 = 0 then ((marlineref09_Right.f (wrap64 (t138))).bind fun t147 => (if t147 = true then (marlinelaw11_FrameParts.j1 kj2 y135 t138 t139 t143 (decide ((t139.length : Int) > a0_6)) a0_0 a0_1 a0_2 a0_3 a0_4 a0_5 a0_6) else (marlinelaw11_FrameParts.j1 kj2 y135 t138 t139 t143 true a0_0 a0_1 a0_2 a0_3 a0_4 a0_5 a0_6))) else (marlinelaw11_FrameParts.j1 kj2 y135 t138 t139 t143 true a0_0 a0_1 a0_2 a0_3 a0_4 a0_5 a0_6)) = some r := H
              have A24 := Aside0.mk A240
              clear A240
              have HC25 := Aside0.mk H
              clear H
              have hcz26_0 : wc.cell? ⟨gb121, 0, none⟩ = some (.bool a0_0) := (blk_cell BK121.out 0).trans rfl
              have hcz26_1 : wc.cell? ⟨gb121, 1, none⟩ = some (.bool a0_1) := (blk_cell BK121.out 1).trans rfl
              have hcz26_2 : wc.cell? ⟨gb121, 2, none⟩ = some (.bool a0_2) := (blk_cell BK121.out 2).trans rfl
              have hcz26_3 : wc.cell? ⟨gb121, 3, none⟩ = some (.bool a0_3) := (blk_cell BK121.out 3).trans rfl
              have hcz26_4 : wc.cell? ⟨gb121, 4, none⟩ = some (.int .u32 a0_4) := (blk_cell BK121.out 4).trans rfl
              have hcz26_5 : wc.cell? ⟨gb121, 5, none⟩ = some (.int .u32 a0_5) := (blk_cell BK121.out 5).trans rfl
              have hcz26_6 : wc.cell? ⟨gb121, 6, none⟩ = some (.int .i64 a0_6) := (blk_cell BK121.out 6).trans rfl
              have hfz26_0 := blk_frozen BK121.out 0
              have hfz26_1 := blk_frozen BK121.out 1
              have hfz26_2 := blk_frozen BK121.out 2
              have hfz26_3 := blk_frozen BK121.out 3
              have hfz26_4 := blk_frozen BK121.out 4
              have hfz26_5 := blk_frozen BK121.out 5
              have hfz26_6 := blk_frozen BK121.out 6
              try go_wp2_with (first | ((with_reducible refine gate_dst (N := 5) rfl ?_); (try (refine gate_guard (by rfl) ?_; dsimp only)); refine box_event ?hg (N := 5) ?hd (cs := #[.bool false, .bool false, .bool false, .bool false, .int .u32 0, .int .u32 0, .int .i64 0]) (t := 26) ?hr ?_; (case hd => rfl); (case hg => rfl); (case hr => first | (go_simp; done) | (go_simp; rfl)); intro gb125 hg w27 hbox hb; have n0_ := Aside0.mk (blk_below (g := gb121) (o := .cells #[.bool a0_0, .bool a0_1, .bool a0_2, .bool a0_3, .int .u32 a0_4, .int .u32 a0_5, .int .i64 a0_6] 24 (0, 0)) (by (with_reducible repeat (first | refine blk_drewN ?_ _ | refine blk_drew ?_ | refine blk_alloc ?_ _)); exact BK121.out) hb); have n1_ := Aside0.mk (below_step (by repeat (first | (with_reducible first | exact HB.out | apply below_alloc | apply pw_below_drewN | apply below_drew1 | refine below_set ?_ GE121.out) | exact HB.out)) hb); have n2_ := Aside0.mk (hbox); have n3_ := Aside0.mk ((by rw [hg]; exact (below_size (by repeat (first | (with_reducible first | exact HB.out | apply below_alloc | apply pw_below_drewN | apply below_drew1 | refine below_set ?_ GE121.out) | exact HB.out))) : w.heap.size ≤ gb125)); have n4_ := Aside0.mk ((by rw [hg]; exact (below_size (by repeat (first | (with_reducible first | exact HB.out | apply below_alloc | apply pw_below_drewN | apply below_drew1 | refine below_set ?_ GE121.out) | exact HB.out))) : w.heap.size ≤ gb125)); have n5_ := Aside0.mk ((by rw [hg]; exact Nat.ne_of_lt (blk_lt (g := gb121) (o := .cells #[.bool a0_0, .bool a0_1, .bool a0_2, .bool a0_3, .int .u32 a0_4, .int .u32 a0_5, .int .i64 a0_6] 24 (0, 0)) (by (with_reducible repeat (first | refine blk_drewN ?_ _ | refine blk_drew ?_ | refine blk_alloc ?_ _)); exact BK121.out)) : gb121 ≠ gb125)); have n6_ := Aside0.mk ((by rw [hg]; exact Nat.ne_of_gt (blk_lt (g := gb121) (o := .cells #[.bool a0_0, .bool a0_1, .bool a0_2, .bool a0_3, .int .u32 a0_4, .int .u32 a0_5, .int .i64 a0_6] 24 (0, 0)) (by (with_reducible repeat (first | refine blk_drewN ?_ _ | refine blk_drew ?_ | refine blk_alloc ?_ _)); exact BK121.out)) : gb125 ≠ gb121)); clear BK121; clear HB; have BK121 := n0_; have HB := n1_; have BK125 := n2_; have GW125 := n3_; have GE125 := n4_; have NB121_125 := n5_; have NB125_121 := n6_; clear n0_ n1_ n2_ n3_ n4_ n5_ n6_; clear hb hbox hg; have hnb28 := NB125_121.out; have hnc28 := NB121_125.out; have hcz29_0 : w27.cell? ⟨gb125, 0, none⟩ = some (.bool false) := (blk_cell BK125.out 0).trans rfl; have hcz29_1 : w27.cell? ⟨gb125, 1, none⟩ = some (.bool false) := (blk_cell BK125.out 1).trans rfl; have hcz29_2 : w27.cell? ⟨gb125, 2, none⟩ = some (.bool false) := (blk_cell BK125.out 2).trans rfl; have hcz29_3 : w27.cell? ⟨gb125, 3, none⟩ = some (.bool false) := (blk_cell BK125.out 3).trans rfl; have hcz29_4 : w27.cell? ⟨gb125, 4, none⟩ = some (.int .u32 0) := (blk_cell BK125.out 4).trans rfl; have hcz29_5 : w27.cell? ⟨gb125, 5, none⟩ = some (.int .u32 0) := (blk_cell BK125.out 5).trans rfl; have hcz29_6 : w27.cell? ⟨gb125, 6, none⟩ = some (.int .i64 0) := (blk_cell BK125.out 6).trans rfl; have hfz29_0 := blk_frozen BK125.out 0; have hfz29_1 := blk_frozen BK125.out 1; have hfz29_2 := blk_frozen BK125.out 2; have hfz29_3 := blk_frozen BK125.out 3; have hfz29_4 := blk_frozen BK125.out 4; have hfz29_5 := blk_frozen BK125.out 5; have hfz29_6 := blk_frozen BK125.out 6))
              have n0_ : Aside0 ((((((((w27.setCell ⟨gb125, 0, none⟩ (.bool a0_0)).setCell ⟨gb125, 1, none⟩ (.bool a0_1)).setCell ⟨gb125, 2, none⟩ (.bool a0_2)).setCell ⟨gb125, 3, none⟩ (.bool a0_3)).setCell ⟨gb125, 4, none⟩ (.int .u32 a0_4)).setCell ⟨gb125, 5, none⟩ (.int .u32 a0_5)).setCell ⟨gb125, 6, none⟩ (.int .i64 a0_6)).heap[gb121]? = some (.cells #[.bool a0_0, .bool a0_1, .bool a0_2, .bool a0_3, .int .u32 a0_4, .int .u32 a0_5, .int .i64 a0_6] 24 (0, 0))) := ⟨by (with_reducible repeat (first | refine blk_drewN ?_ _ | refine blk_drew ?_ | refine blk_alloc ?_ _)); refine blk_far ?_ NB121_125.out _; (with_reducible repeat (first | refine blk_drewN ?_ _ | refine blk_drew ?_ | refine blk_alloc ?_ _)); refine blk_far ?_ NB121_125.out _; (with_reducible repeat (first | refine blk_drewN ?_ _ | refine blk_drew ?_ | refine blk_alloc ?_ _)); refine blk_far ?_ NB121_125.out _; (with_reducible repeat (first | refine blk_drewN ?_ _ | refine blk_drew ?_ | refine blk_alloc ?_ _)); refine blk_far ?_ NB121_125.out _; (with_reducible repeat (first | refine blk_drewN ?_ _ | refine blk_drew ?_ | refine blk_alloc ?_ _)); refine blk_far ?_ NB121_125.out _; (with_reducible repeat (first | refine blk_drewN ?_ _ | refine blk_drew ?_ | refine blk_alloc ?_ _)); refine blk_far ?_ NB121_125.out _; (with_reducible repeat (first | refine blk_drewN ?_ _ | refine blk_drew ?_ | refine blk_alloc ?_ _)); refine blk_far ?_ NB121_125.out _; (with_reducible repeat (first | refine blk_drewN ?_ _ | refine blk_drew ?_ | refine blk_alloc ?_ _)); exact BK121.out⟩
              have n1_ : Aside0 ((((((((w27.setCell ⟨gb125, 0, none⟩ (.bool a0_0)).setCell ⟨gb125, 1, none⟩ (.bool a0_1)).setCell ⟨gb125, 2, none⟩ (.bool a0_2)).setCell ⟨gb125, 3, none⟩ (.bool a0_3)).setCell ⟨gb125, 4, none⟩ (.int .u32 a0_4)).setCell ⟨gb125, 5, none⟩ (.int .u32 a0_5)).setCell ⟨gb125, 6, none⟩ (.int .i64 a0_6)).heap[gb125]? = some (.cells #[.bool a0_0, .bool a0_1, .bool a0_2, .bool a0_3, .int .u32 a0_4, .int .u32 a0_5, .int .i64 a0_6] 26 (0, 0))) := ⟨by (with_reducible repeat (first | refine blk_drewN ?_ _ | refine blk_drew ?_ | refine blk_alloc ?_ _)); refine blk_put (cs := #[.bool a0_0, .bool a0_1, .bool a0_2, .bool a0_3, .int .u32 a0_4, .int .u32 a0_5, .int .i64 0]) ?_ 6 _ rfl; (with_reducible repeat (first | refine blk_drewN ?_ _ | refine blk_drew ?_ | refine blk_alloc ?_ _)); refine blk_put (cs := #[.bool a0_0, .bool a0_1, .bool a0_2, .bool a0_3, .int .u32 a0_4, .int .u32 0, .int .i64 0]) ?_ 5 _ rfl; (with_reducible repeat (first | refine blk_drewN ?_ _ | refine blk_drew ?_ | refine blk_alloc ?_ _)); refine blk_put (cs := #[.bool a0_0, .bool a0_1, .bool a0_2, .bool a0_3, .int .u32 0, .int .u32 0, .int .i64 0]) ?_ 4 _ rfl; (with_reducible repeat (first | refine blk_drewN ?_ _ | refine blk_drew ?_ | refine blk_alloc ?_ _)); refine blk_put (cs := #[.bool a0_0, .bool a0_1, .bool a0_2, .bool false, .int .u32 0, .int .u32 0, .int .i64 0]) ?_ 3 _ rfl; (with_reducible repeat (first | refine blk_drewN ?_ _ | refine blk_drew ?_ | refine blk_alloc ?_ _)); refine blk_put (cs := #[.bool a0_0, .bool a0_1, .bool false, .bool false, .int .u32 0, .int .u32 0, .int .i64 0]) ?_ 2 _ rfl; (with_reducible repeat (first | refine blk_drewN ?_ _ | refine blk_drew ?_ | refine blk_alloc ?_ _)); refine blk_put (cs := #[.bool a0_0, .bool false, .bool false, .bool false, .int .u32 0, .int .u32 0, .int .i64 0]) ?_ 1 _ rfl; (with_reducible repeat (first | refine blk_drewN ?_ _ | refine blk_drew ?_ | refine blk_alloc ?_ _)); refine blk_put (cs := #[.bool false, .bool false, .bool false, .bool false, .int .u32 0, .int .u32 0, .int .i64 0]) ?_ 0 _ rfl; (with_reducible repeat (first | refine blk_drewN ?_ _ | refine blk_drew ?_ | refine blk_alloc ?_ _)); exact BK125.out⟩
              have n2_ : Aside0 (Below w.heap.size w (((((((w27.setCell ⟨gb125, 0, none⟩ (.bool a0_0)).setCell ⟨gb125, 1, none⟩ (.bool a0_1)).setCell ⟨gb125, 2, none⟩ (.bool a0_2)).setCell ⟨gb125, 3, none⟩ (.bool a0_3)).setCell ⟨gb125, 4, none⟩ (.int .u32 a0_4)).setCell ⟨gb125, 5, none⟩ (.int .u32 a0_5)).setCell ⟨gb125, 6, none⟩ (.int .i64 a0_6))) := ⟨by repeat (first | (with_reducible first | exact HB.out | apply below_alloc | apply pw_below_drewN | apply below_drew1 | refine below_set ?_ GE121.out | refine below_set ?_ GE125.out) | exact HB.out)⟩
              (try clear BK121)
              (try clear BK125)
              (try clear HB)
              generalize (((((((w27.setCell ⟨gb125, 0, none⟩ (.bool a0_0)).setCell ⟨gb125, 1, none⟩ (.bool a0_1)).setCell ⟨gb125, 2, none⟩ (.bool a0_2)).setCell ⟨gb125, 3, none⟩ (.bool a0_3)).setCell ⟨gb125, 4, none⟩ (.int .u32 a0_4)).setCell ⟨gb125, 5, none⟩ (.int .u32 a0_5)).setCell ⟨gb125, 6, none⟩ (.int .i64 a0_6)) = w30 at n0_ n1_ n2_ ⊢
              have BK121 := n0_
              have BK125 := n1_
              have HB := n2_
              clear n0_ n1_ n2_
              have n0_ := Aside0.mk (blk_drew BK121.out)
              have n1_ := Aside0.mk (blk_drew BK125.out)
              have n2_ := Aside0.mk (below_drew1 HB.out)
              clear BK121
              clear BK125
              clear HB
              have BK121 := n0_
              have BK125 := n1_
              have HB := n2_
              clear n0_ n1_ n2_
              refine start_ (n := 9) (S := fun w' => w'.cell? ⟨gb121, 0, none⟩ = some (.bool a0_0) ∧ w'.cell? ⟨gb121, 1, none⟩ = some (.bool a0_1) ∧ w'.cell? ⟨gb121, 2, none⟩ = some (.bool a0_2) ∧ w'.cell? ⟨gb121, 3, none⟩ = some (.bool a0_3) ∧ w'.cell? ⟨gb121, 4, none⟩ = some (.int .u32 a0_4) ∧ w'.cell? ⟨gb121, 5, none⟩ = some (.int .u32 a0_5) ∧ w'.cell? ⟨gb121, 6, none⟩ = some (.int .i64 a0_6)) (ds := []) #[false, false, false, false, false, false, false, false, false] (by kernel_rfl) rfl rfl ⟨(blk_cell BK121.out 0).trans rfl, (blk_cell BK121.out 1).trans rfl, (blk_cell BK121.out 2).trans rfl, (blk_cell BK121.out 3).trans rfl, (blk_cell BK121.out 4).trans rfl, (blk_cell BK121.out 5).trans rfl, (blk_cell BK121.out 6).trans rfl⟩ (fun hHeld => ?_); refine with_tabW marlinelaw11_FrameParts.tab4 marlinelaw11_FrameParts.bits4 (fun HT_ HW_ => ?_)
              generalize w30.drew = w31 at BK121 BK125 HB hHeld ⊢
              refine pure_ (i := 1) (N := some 30) (v := ?_) (a' := ?_) #[false, true, false, false, false, false, false, false, false] rfl rfl (any_of HT_.out (by kernel_rfl)) (fun _ _ _ h => h) (Or.inl ⟨by rfl, ?_⟩) ?_ ?_
              rotate_left
              · intro w'
                go_simp
                with_reducible rfl
              rotate_left
              · simp only [Act.put, List.setIfInBounds_toArray, List.set_cons_zero, List.set_cons_succ, i64_w, i32_w]
                rfl
              refine pure_ (i := 3) (N := some 32) (v := ?_) (a' := ?_) #[false, true, false, true, false, false, false, false, false] rfl rfl (any_of HT_.out (by kernel_rfl)) (fun _ _ _ h => h) (Or.inl ⟨by rfl, ?_⟩) ?_ ?_
              rotate_left
              · intro w'
                go_simp
                with_reducible rfl
              rotate_left
              · simp only [Act.put, List.setIfInBounds_toArray, List.set_cons_zero, List.set_cons_succ, i64_w, i32_w]
                rfl
              refine pure_ (i := 5) (N := some 34) (v := ?_) (a' := ?_) #[false, true, false, true, false, true, false, false, false] rfl rfl (any_of HT_.out (by kernel_rfl)) (fun _ _ _ h => h) (Or.inl ⟨by rfl, ?_⟩) ?_ ?_
              rotate_left
              · intro w'
                go_simp
                with_reducible rfl
              rotate_left
              · simp only [Act.put, List.setIfInBounds_toArray, List.set_cons_zero, List.set_cons_succ, i64_w, i32_w]
                rfl
              refine take_ (i := 4) (N := some 33) (v := ?_) (a' := ?_) #[false, true, false, true, true, true, false, false, false] rfl rfl (take_ofW HT_.out HW_.out (by kernel_rfl)) (fun _ _ _ h => h) (Or.inl ⟨by rfl, ?_⟩) hHeld ?_ ?_
              rotate_left
              · rintro w' ⟨s0, s1, s2, s3, s4, s5, s6⟩
                go_simp
                with_reducible rfl
              rotate_left
              · simp only [Act.put, List.setIfInBounds_toArray, List.set_cons_zero, List.set_cons_succ, i64_w, i32_w]
                rfl
              refine one_ (i := 0) (N := some 29) #[true, true, false, true, true, true, false, false, false] rfl rfl (one_of HT_.out (by kernel_rfl)) (by decide) (fun K hK => ?_)
              refine Kd.R_lit_step (Kd.int .u8) _ 5 ?hg (N := 29) ?hd (xs := ([] : List Int)) (inner := []) (ok := fun _ => True) (okp := fun _ => True) ?hr ?hp (fun _ hk => hk) trivial (Below.refl _ _) (Nat.le_refl _) (by simp) ?_; (case hd => rfl); (case hg => rfl); (case hr => first | (go_simp; done) | (go_simp; rfl)); (case hp => exact (Reps.none _ _))
              intro v127 w32 ho33 hb hg_ hnew_
              clear hg_ hnew_
              (first | rw [← Ny126.out] at ho33 | (simp only [Int.reduceToNat] at ho33; rw [← Ny126.out] at ho33))
              have n0_ := Aside0.mk (Kd.R_lower ho33 (below_size (by repeat (first | (with_reducible first | exact HB.out | apply below_alloc | apply pw_below_drewN | apply below_drew1 | refine below_set ?_ GE121.out | refine below_set ?_ GE125.out) | exact HB.out))))
              have n1_ := Aside0.mk (blk_below (g := gb121) (o := .cells #[.bool a0_0, .bool a0_1, .bool a0_2, .bool a0_3, .int .u32 a0_4, .int .u32 a0_5, .int .i64 a0_6] 24 (0, 0)) (by (with_reducible repeat (first | refine blk_drewN ?_ _ | refine blk_drew ?_ | refine blk_alloc ?_ _)); exact BK121.out) hb)
              have n2_ := Aside0.mk (blk_below (g := gb125) (o := .cells #[.bool a0_0, .bool a0_1, .bool a0_2, .bool a0_3, .int .u32 a0_4, .int .u32 a0_5, .int .i64 a0_6] 26 (0, 0)) (by (with_reducible repeat (first | refine blk_drewN ?_ _ | refine blk_drew ?_ | refine blk_alloc ?_ _)); exact BK125.out) hb)
              have n3_ := Aside0.mk (below_step (by repeat (first | (with_reducible first | exact HB.out | apply below_alloc | apply pw_below_drewN | apply below_drew1 | refine below_set ?_ GE121.out | refine below_set ?_ GE125.out) | exact HB.out)) hb)
              clear BK121
              clear BK125
              clear HB
              have HO128 := n0_
              have BK121 := n1_
              have BK125 := n2_
              have HB := n3_
              clear n0_ n1_ n2_ n3_
              clear hb ho33
              refine hK.out _ _ ⟨(blk_cell BK121.out 0).trans rfl, (blk_cell BK121.out 1).trans rfl, (blk_cell BK121.out 2).trans rfl, (blk_cell BK121.out 3).trans rfl, (blk_cell BK121.out 4).trans rfl, (blk_cell BK121.out 5).trans rfl, (blk_cell BK121.out 6).trans rfl⟩ (fun hHeld => ?_)
              clear hK K
              refine norm_ (a' := ?_) ?_ ?_
              rotate_left
              · show Act.put _ (some 29) _ = _
                simp only [Act.put, List.setIfInBounds_toArray, List.set_cons_zero, List.set_cons_succ, i64_w, i32_w]
                rfl
              refine one_ (i := 2) (N := some 31) #[true, true, true, true, true, true, false, false, false] rfl rfl (one_of HT_.out (by kernel_rfl)) (by decide) (fun K hK => ?_)
              refine Kd.R_append_rows_step (Kd.int .u8) (w0 := w) w.heap.size (by rfl) (.tmp 29) (.tmp 30) 35 5 (.int .u8 0) 1 rfl Tryd.underlying35 info5 rfl (by decide) (by omega) v127 y126 l1 _ _ _ (fun _ => True) (fun _ => False) rfl rfl ?aO ?aR (fun _ _ h => h) (fun _ h => h.elim) ?aF ?aB ?aS ?aL ?_
              (case aR => repeat (first | exact (Kd.C_below HR1.out HB.out) | (with_reducible refine Kd.C_alloc ?_ _) | (with_reducible refine Kd.C_drewN ?_ _) | (with_reducible refine Kd.C_drew ?_)))
              (case aB => exact (by repeat (first | (with_reducible first | exact HB.out | apply below_alloc | apply pw_below_drewN | apply below_drew1 | refine below_set ?_ GE121.out | refine below_set ?_ GE125.out) | exact HB.out)))
              (case aF => exact (fun _ _ => trivial))
              (case aO => exact (by (with_reducible repeat (first | apply Kd.R_alloc | apply Kd.R_drewN | apply Kd.R_drew)); exact HO128.out))
              (case aS => exact (below_size (by repeat (first | (with_reducible first | exact HB.out | apply below_alloc | apply pw_below_drewN | apply below_drew1 | refine below_set ?_ GE121.out | refine below_set ?_ GE125.out) | exact HB.out))))
              (case aL => have := LMc19.out; omega)
              intro v130 w34 ho hb hg hat
              rw [← Ny129.out] at ho
              have n0_ := Aside0.mk (blk_grown (g := gb121) (o := .cells #[.bool a0_0, .bool a0_1, .bool a0_2, .bool a0_3, .int .u32 a0_4, .int .u32 a0_5, .int .i64 a0_6] 24 (0, 0)) (by (with_reducible repeat (first | refine blk_drewN ?_ _ | refine blk_drew ?_ | refine blk_alloc ?_ _)); exact BK121.out) hg (Kd.R_ne HO128.out BK121.out (by decide)))
              have n1_ := Aside0.mk (blk_grown (g := gb125) (o := .cells #[.bool a0_0, .bool a0_1, .bool a0_2, .bool a0_3, .int .u32 a0_4, .int .u32 a0_5, .int .i64 a0_6] 26 (0, 0)) (by (with_reducible repeat (first | refine blk_drewN ?_ _ | refine blk_drew ?_ | refine blk_alloc ?_ _)); exact BK125.out) hg (Kd.R_ne HO128.out BK125.out (by decide)))
              have n2_ := Aside0.mk (hb)
              have n3_ := Aside0.mk (ho)
              clear BK121
              clear BK125
              clear HB
              clear HO128
              have BK121 := n0_
              have BK125 := n1_
              have HB := n2_
              have HO131 := n3_
              clear n0_ n1_ n2_ n3_
              clear ho hb hg hat
              refine hK.out _ _ ⟨(blk_cell BK121.out 0).trans rfl, (blk_cell BK121.out 1).trans rfl, (blk_cell BK121.out 2).trans rfl, (blk_cell BK121.out 3).trans rfl, (blk_cell BK121.out 4).trans rfl, (blk_cell BK121.out 5).trans rfl, (blk_cell BK121.out 6).trans rfl⟩ (fun hHeld => ?_)
              clear hK K
              refine norm_ (a' := ?_) ?_ ?_
              rotate_left
              · show Act.put _ (some 31) _ = _
                simp only [Act.put, List.setIfInBounds_toArray, List.set_cons_zero, List.set_cons_succ, i64_w, i32_w]
                rfl
              refine one_ (i := 6) (N := some 35) #[true, true, true, true, true, true, true, false, false] rfl rfl (one_of HT_.out (by kernel_rfl)) (by decide) (fun K hK => ?_)
              refine goes_ Tryd.func40 (by kernel_rfl) rfl #[.bool a0_1, .slice A1 l1.length c1] (by rfl) rfl rfl (by (try simp only [List.map_toArray, List.map_cons, List.map_nil]); first | done | rfl | (simp only [List.length_drop, List.length_take]; rfl)) ?_
              with_reducible refine (fcs_Trailer.calls kj2 a0_1 _ _ l1 t132 _ ?side1 ?side2 ?side3 A20.out).mono ?_
              (case side1 => repeat (first | exact (Kd.C_below HR1.out HB.out) | (with_reducible refine Kd.C_alloc ?_ _) | (with_reducible refine Kd.C_drewN ?_ _) | (with_reducible refine Kd.C_drew ?_)))
              (case side2 => exact HC1.out)
              (case side3 => repeat (first | exact (GF_below HGF.out HB.out) | (with_reducible refine GF_alloc ?_ _) | (with_reducible refine GF_drewN ?_ _) | (with_reducible refine GF_drew ?_)))
              rintro e w35 ⟨v133, rfl, ho0, hb⟩
              refine ⟨_, rfl, ?_⟩
              have n0_ := Aside0.mk (Kd.R_elder' (by (with_reducible repeat (first | apply Kd.R_alloc | apply Kd.R_drewN | apply Kd.R_drew)); exact HO131.out) (Kd.R_base ho0) hb)
              have n1_ := Aside0.mk (Kd.R_lower (Kd.R_new' ho0 (Kd.R_lt (by (with_reducible repeat (first | apply Kd.R_alloc | apply Kd.R_drewN | apply Kd.R_drew)); exact HO131.out))) (below_size (by repeat (first | (with_reducible first | exact HB.out | apply below_alloc | apply pw_below_drewN | apply below_drew1 | refine below_set ?_ GE121.out | refine below_set ?_ GE125.out) | exact HB.out))))
              have n2_ := Aside0.mk (blk_below (g := gb121) (o := .cells #[.bool a0_0, .bool a0_1, .bool a0_2, .bool a0_3, .int .u32 a0_4, .int .u32 a0_5, .int .i64 a0_6] 24 (0, 0)) (by (with_reducible repeat (first | refine blk_drewN ?_ _ | refine blk_drew ?_ | refine blk_alloc ?_ _)); exact BK121.out) hb)
              have n3_ := Aside0.mk (blk_below (g := gb125) (o := .cells #[.bool a0_0, .bool a0_1, .bool a0_2, .bool a0_3, .int .u32 a0_4, .int .u32 a0_5, .int .i64 a0_6] 26 (0, 0)) (by (with_reducible repeat (first | refine blk_drewN ?_ _ | refine blk_drew ?_ | refine blk_alloc ?_ _)); exact BK125.out) hb)
              have n4_ := Aside0.mk (below_step (by repeat (first | (with_reducible first | exact HB.out | apply below_alloc | apply pw_below_drewN | apply below_drew1 | refine below_set ?_ GE121.out | refine below_set ?_ GE125.out) | exact HB.out)) hb)
              clear HO131
              clear BK121
              clear BK125
              clear HB
              have HO131 := n0_
              have HO134 := n1_
              have BK121 := n2_
              have BK125 := n3_
              have HB := n4_
              clear n0_ n1_ n2_ n3_ n4_
              (try clear hb)
              (try clear hb2)
              (try clear hk)
              (try clear hi)
              (try clear ho0)
              obtain ⟨Ao37, co37, eo37⟩ := Kd.R_slice HO134.out
              (first | subst eo37 | (injection eo37 with f1_ f2_ f3_; have f4_ := f1_.symm; have f5_ := f3_.symm; clear f1_ f2_ f3_; subst f4_; subst f5_))
              refine hK.out _ _ ⟨(blk_cell BK121.out 0).trans rfl, (blk_cell BK121.out 1).trans rfl, (blk_cell BK121.out 2).trans rfl, (blk_cell BK121.out 3).trans rfl, (blk_cell BK121.out 4).trans rfl, (blk_cell BK121.out 5).trans rfl, (blk_cell BK121.out 6).trans rfl⟩ (fun hHeld => ?_)
              clear hK K
              refine norm_ (a' := ?_) ?_ ?_
              rotate_left
              · show Act.put _ (some 35) _ = _
                simp only [Act.put, List.setIfInBounds_toArray, List.set_cons_zero, List.set_cons_succ, i64_w, i32_w]
                rfl
              refine one_ (i := 7) (N := some 36) #[true, true, true, true, true, true, true, true, false] rfl rfl (one_of HT_.out (by kernel_rfl)) (by decide) (fun K hK => ?_)
              refine Kd.R_append_rows_step (Kd.int .u8) (w0 := w) w.heap.size (by rfl) (.tmp 31) (.tmp 35) 35 5 (.int .u8 0) 1 rfl Tryd.underlying35 info5 rfl (by decide) (by omega) v130 y129 t132 _ _ _ (fun k_ => some k_ ≠ (.slice Ao37 t132.length co37 : Value).ownBlock) (fun _ => False) rfl rfl ?aO ?aR (fun _ _ h => h) (fun _ h => h.elim) ?aF ?aB ?aS ?aL ?_
              (case aR => repeat (first | exact (Kd.R_reads' HO134.out).2.2 | (with_reducible refine Kd.C_alloc ?_ _) | (with_reducible refine Kd.C_drewN ?_ _) | (with_reducible refine Kd.C_drew ?_)))
              (case aB => exact (by repeat (first | (with_reducible first | exact HB.out | apply below_alloc | apply pw_below_drewN | apply below_drew1 | refine below_set ?_ GE121.out | refine below_set ?_ GE125.out) | exact HB.out)))
              (case aF => exact (fun k_ hk => Kd.fresh' (Kd.R_lt (by (with_reducible repeat (first | apply Kd.R_alloc | apply Kd.R_drewN | apply Kd.R_drew)); exact HO134.out)) k_ hk))
              (case aO => exact (by (with_reducible repeat (first | apply Kd.R_alloc | apply Kd.R_drewN | apply Kd.R_drew)); exact Kd.R_mono HO131.out (fun _ hk => hk.2)))
              (case aS => exact (below_size (by repeat (first | (with_reducible first | exact HB.out | apply below_alloc | apply pw_below_drewN | apply below_drew1 | refine below_set ?_ GE121.out | refine below_set ?_ GE125.out) | exact HB.out))))
              (case aL => have := LMc21.out; omega)
              intro v136 w36 ho hb hg hat
              rw [← Ny135.out] at ho
              have n0_ := Aside0.mk (blk_grown (g := gb121) (o := .cells #[.bool a0_0, .bool a0_1, .bool a0_2, .bool a0_3, .int .u32 a0_4, .int .u32 a0_5, .int .i64 a0_6] 24 (0, 0)) (by (with_reducible repeat (first | refine blk_drewN ?_ _ | refine blk_drew ?_ | refine blk_alloc ?_ _)); exact BK121.out) hg (Kd.R_ne HO131.out BK121.out (by decide)))
              have n1_ := Aside0.mk (blk_grown (g := gb125) (o := .cells #[.bool a0_0, .bool a0_1, .bool a0_2, .bool a0_3, .int .u32 a0_4, .int .u32 a0_5, .int .i64 a0_6] 26 (0, 0)) (by (with_reducible repeat (first | refine blk_drewN ?_ _ | refine blk_drew ?_ | refine blk_alloc ?_ _)); exact BK125.out) hg (Kd.R_ne HO131.out BK125.out (by decide)))
              have n2_ := Aside0.mk (Kd.R_after (ok := (fun _ => True)) (by (with_reducible repeat (first | apply Kd.R_alloc | apply Kd.R_drewN | apply Kd.R_drew)); exact HO134.out) hg hat)
              have n3_ := Aside0.mk (hb)
              have n4_ := Aside0.mk (ho)
              clear BK121
              clear BK125
              clear HO134
              clear HB
              clear HO131
              have BK121 := n0_
              have BK125 := n1_
              have HO134 := n2_
              have HB := n3_
              have HO137 := n4_
              clear n0_ n1_ n2_ n3_ n4_
              clear ho hb hg hat
              refine hK.out _ _ ⟨(blk_cell BK121.out 0).trans rfl, (blk_cell BK121.out 1).trans rfl, (blk_cell BK121.out 2).trans rfl, (blk_cell BK121.out 3).trans rfl, (blk_cell BK121.out 4).trans rfl, (blk_cell BK121.out 5).trans rfl, (blk_cell BK121.out 6).trans rfl⟩ (fun hHeld => ?_)
              clear hK K
              refine norm_ (a' := ?_) ?_ ?_
              rotate_left
              · show Act.put _ (some 36) _ = _
                simp only [Act.put, List.setIfInBounds_toArray, List.set_cons_zero, List.set_cons_succ, i64_w, i32_w]
                rfl
              refine pure_ (i := 8) (N := some 6) (v := ?_) (a' := ?_) #[true, true, true, true, true, true, true, true, true] rfl rfl (any_of HT_.out (by kernel_rfl)) (fun _ _ _ h => h) (Or.inl ⟨by rfl, ?_⟩) ?_ ?_
              rotate_left
              · intro w'
                go_simp
                with_reducible rfl
              rotate_left
              · simp only [Act.put, List.setIfInBounds_toArray, List.set_cons_zero, List.set_cons_succ, i64_w, i32_w]
                rfl
              refine done_ (done_of HT_.out (by kernel_rfl)) ?_
              have hcz38_0 : w36.cell? ⟨gb125, 0, none⟩ = some (.bool a0_0) := (blk_cell BK125.out 0).trans rfl
              have hcz38_1 : w36.cell? ⟨gb125, 1, none⟩ = some (.bool a0_1) := (blk_cell BK125.out 1).trans rfl
              have hcz38_2 : w36.cell? ⟨gb125, 2, none⟩ = some (.bool a0_2) := (blk_cell BK125.out 2).trans rfl
              have hcz38_3 : w36.cell? ⟨gb125, 3, none⟩ = some (.bool a0_3) := (blk_cell BK125.out 3).trans rfl
              have hcz38_4 : w36.cell? ⟨gb125, 4, none⟩ = some (.int .u32 a0_4) := (blk_cell BK125.out 4).trans rfl
              have hcz38_5 : w36.cell? ⟨gb125, 5, none⟩ = some (.int .u32 a0_5) := (blk_cell BK125.out 5).trans rfl
              have hcz38_6 : w36.cell? ⟨gb125, 6, none⟩ = some (.int .i64 a0_6) := (blk_cell BK125.out 6).trans rfl
              have hfz38_0 := blk_frozen BK125.out 0
              have hfz38_1 := blk_frozen BK125.out 1
              have hfz38_2 := blk_frozen BK125.out 2
              have hfz38_3 := blk_frozen BK125.out 3
              have hfz38_4 := blk_frozen BK125.out 4
              have hfz38_5 := blk_frozen BK125.out 5
              have hfz38_6 := blk_frozen BK125.out 6
              obtain ⟨Ao39, co39, eo39⟩ := Kd.R_slice HO137.out
              subst eo39
              go_upto_region 9 with (first | ((with_reducible refine gate_callee (f := 49) rfl ?_); refine goesL_ (some 40) rfl rfl Tryd.func49 (by kernel_rfl) rfl #[.agg #[.bool a0_0, .bool a0_1, .bool a0_2, .bool a0_3, .int .u32 a0_4, .int .u32 a0_5, .int .i64 a0_6], .slice Ao39 y135.length co39] rfl (by (try simp only [List.map_toArray, List.map_cons, List.map_nil]); first | done | rfl | (simp only [List.length_drop, List.length_take]; rfl)) ?_; (with_reducible refine (frame_Parse.calls kj2 a0_0 a0_1 a0_2 a0_3 a0_4 a0_5 a0_6 _ _ y135 t138 t139 t142 _ ?side1 ?side2 ?side3 ?side4 A22.out).mono ?_); (case side1 => repeat (first | exact (Kd.R_reads' HO137.out).2.2 | (with_reducible refine Kd.C_alloc ?_ _) | (with_reducible refine Kd.C_drewN ?_ _) | (with_reducible refine Kd.C_drew ?_))); (case side2 => exact (Kd.R_reads' HO137.out).2.1); (case side3 => repeat (first | exact (GF_below HGF.out HB.out) | (with_reducible refine GF_alloc ?_ _) | (with_reducible refine GF_drewN ?_ _) | (with_reducible refine GF_drew ?_))); (case side4 => repeat (first | exact (GH_below HGH.out HB.out) | (with_reducible refine GH_alloc ?_ _) | (with_reducible refine GH_drewN ?_ _) | (with_reducible refine GH_drew ?_))); rintro e w40 ⟨v140, rfl, ho0, hb⟩; refine ⟨_, rfl, ?_⟩; have n0_ := Aside0.mk (Kd.R_elder' (by (with_reducible repeat (first | apply Kd.R_alloc | apply Kd.R_drewN | apply Kd.R_drew)); exact HO134.out) (Kd.R_base ho0) hb); have n1_ := Aside0.mk (Kd.R_elder' (by (with_reducible repeat (first | apply Kd.R_alloc | apply Kd.R_drewN | apply Kd.R_drew)); exact HO137.out) (Kd.R_base ho0) hb); have n2_ := Aside0.mk (Kd.R_lower (Kd.R_new' (Kd.R_new' ho0 (Kd.R_lt (by (with_reducible repeat (first | apply Kd.R_alloc | apply Kd.R_drewN | apply Kd.R_drew)); exact HO134.out))) (Kd.R_lt (by (with_reducible repeat (first | apply Kd.R_alloc | apply Kd.R_drewN | apply Kd.R_drew)); exact HO137.out))) (below_size (by repeat (first | (with_reducible first | exact HB.out | apply below_alloc | apply pw_below_drewN | apply below_drew1 | refine below_set ?_ GE121.out | refine below_set ?_ GE125.out) | exact HB.out)))); have n3_ := Aside0.mk (blk_below (g := gb121) (o := .cells #[.bool a0_0, .bool a0_1, .bool a0_2, .bool a0_3, .int .u32 a0_4, .int .u32 a0_5, .int .i64 a0_6] 24 (0, 0)) (by (with_reducible repeat (first | refine blk_drewN ?_ _ | refine blk_drew ?_ | refine blk_alloc ?_ _)); exact BK121.out) hb); have n4_ := Aside0.mk (blk_below (g := gb125) (o := .cells #[.bool a0_0, .bool a0_1, .bool a0_2, .bool a0_3, .int .u32 a0_4, .int .u32 a0_5, .int .i64 a0_6] 26 (0, 0)) (by (with_reducible repeat (first | refine blk_drewN ?_ _ | refine blk_drew ?_ | refine blk_alloc ?_ _)); exact BK125.out) hb); have n5_ := Aside0.mk (below_step (by repeat (first | (with_reducible first | exact HB.out | apply below_alloc | apply pw_below_drewN | apply below_drew1 | refine below_set ?_ GE121.out | refine below_set ?_ GE125.out) | exact HB.out)) hb); clear HO134; clear HO137; clear BK121; clear BK125; clear HB; have HO134 := n0_; have HO137 := n1_; have HO141 := n2_; have BK121 := n3_; have BK125 := n4_; have HB := n5_; clear n0_ n1_ n2_ n3_ n4_ n5_; (try clear hb); (try clear hb2); (try clear hk); (try clear hi); (try clear ho0); have hcz41_0 : w40.cell? ⟨gb125, 0, none⟩ = some (.bool a0_0) := (blk_cell BK125.out 0).trans rfl; have hcz41_1 : w40.cell? ⟨gb125, 1, none⟩ = some (.bool a0_1) := (blk_cell BK125.out 1).trans rfl; have hcz41_2 : w40.cell? ⟨gb125, 2, none⟩ = some (.bool a0_2) := (blk_cell BK125.out 2).trans rfl; have hcz41_3 : w40.cell? ⟨gb125, 3, none⟩ = some (.bool a0_3) := (blk_cell BK125.out 3).trans rfl; have hcz41_4 : w40.cell? ⟨gb125, 4, none⟩ = some (.int .u32 a0_4) := (blk_cell BK125.out 4).trans rfl; have hcz41_5 : w40.cell? ⟨gb125, 5, none⟩ = some (.int .u32 a0_5) := (blk_cell BK125.out 5).trans rfl; have hcz41_6 : w40.cell? ⟨gb125, 6, none⟩ = some (.int .i64 a0_6) := (blk_cell BK125.out 6).trans rfl; have hfz41_0 := blk_frozen BK125.out 0; have hfz41_1 := blk_frozen BK125.out 1; have hfz41_2 := blk_frozen BK125.out 2; have hfz41_3 := blk_frozen BK125.out 3; have hfz41_4 := blk_frozen BK125.out 4; have hfz41_5 := blk_frozen BK125.out 5; have hfz41_6 := blk_frozen BK125.out 6; obtain ⟨Ao42, co42, eo42⟩ := Kd.R_slice HO141.out; subst eo42) | ((with_reducible refine gate_callee (f := 48) rfl ?_); refine goesL_ (some 61) rfl rfl Tryd.func48 (by kernel_rfl) rfl #[.agg #[.bool a0_0, .bool a0_1, .bool a0_2, .bool a0_3, .int .u32 a0_4, .int .u32 a0_5, .int .i64 a0_6], .int .u16 t138, .slice Ao42 t139.length co42] rfl (by (try simp only [List.map_toArray, List.map_cons, List.map_nil]); first | done | rfl | (simp only [List.length_drop, List.length_take]; rfl)) ?_; (with_reducible refine (frame_Build.calls kj2 a0_0 a0_1 a0_2 a0_3 a0_4 a0_5 a0_6 t138 _ _ t139 t143 t146 _ ?side1 ?side2 ?side3 ?side4 A24.out).mono ?_); (case side1 => repeat (first | exact (Kd.R_reads' HO141.out).2.2 | (with_reducible refine Kd.C_alloc ?_ _) | (with_reducible refine Kd.C_drewN ?_ _) | (with_reducible refine Kd.C_drew ?_))); (case side2 => exact (Kd.R_reads' HO141.out).2.1); (case side3 => repeat (first | exact (GF_below HGF.out HB.out) | (with_reducible refine GF_alloc ?_ _) | (with_reducible refine GF_drewN ?_ _) | (with_reducible refine GF_drew ?_))); (case side4 => repeat (first | exact (GH_below HGH.out HB.out) | (with_reducible refine GH_alloc ?_ _) | (with_reducible refine GH_drewN ?_ _) | (with_reducible refine GH_drew ?_))); rintro e w43 ⟨v144, rfl, ho0, hb⟩; refine ⟨_, rfl, ?_⟩; have n0_ := Aside0.mk (Kd.R_elder' (by (with_reducible repeat (first | apply Kd.R_alloc | apply Kd.R_drewN | apply Kd.R_drew)); exact HO134.out) (Kd.R_base ho0) hb); have n1_ := Aside0.mk (Kd.R_elder' (by (with_reducible repeat (first | apply Kd.R_alloc | apply Kd.R_drewN | apply Kd.R_drew)); exact HO137.out) (Kd.R_base ho0) hb); have n2_ := Aside0.mk (Kd.R_elder' (by (with_reducible repeat (first | apply Kd.R_alloc | apply Kd.R_drewN | apply Kd.R_drew)); exact HO141.out) (Kd.R_base ho0) hb); have n3_ := Aside0.mk (Kd.R_lower (Kd.R_new' (Kd.R_new' (Kd.R_new' ho0 (Kd.R_lt (by (with_reducible repeat (first | apply Kd.R_alloc | apply Kd.R_drewN | apply Kd.R_drew)); exact HO134.out))) (Kd.R_lt (by (with_reducible repeat (first | apply Kd.R_alloc | apply Kd.R_drewN | apply Kd.R_drew)); exact HO137.out))) (Kd.R_lt (by (with_reducible repeat (first | apply Kd.R_alloc | apply Kd.R_drewN | apply Kd.R_drew)); exact HO141.out))) (below_size (by repeat (first | (with_reducible first | exact HB.out | apply below_alloc | apply pw_below_drewN | apply below_drew1 | refine below_set ?_ GE121.out | refine below_set ?_ GE125.out) | exact HB.out)))); have n4_ := Aside0.mk (blk_below (g := gb121) (o := .cells #[.bool a0_0, .bool a0_1, .bool a0_2, .bool a0_3, .int .u32 a0_4, .int .u32 a0_5, .int .i64 a0_6] 24 (0, 0)) (by (with_reducible repeat (first | refine blk_drewN ?_ _ | refine blk_drew ?_ | refine blk_alloc ?_ _)); exact BK121.out) hb); have n5_ := Aside0.mk (blk_below (g := gb125) (o := .cells #[.bool a0_0, .bool a0_1, .bool a0_2, .bool a0_3, .int .u32 a0_4, .int .u32 a0_5, .int .i64 a0_6] 26 (0, 0)) (by (with_reducible repeat (first | refine blk_drewN ?_ _ | refine blk_drew ?_ | refine blk_alloc ?_ _)); exact BK125.out) hb); have n6_ := Aside0.mk (below_step (by repeat (first | (with_reducible first | exact HB.out | apply below_alloc | apply pw_below_drewN | apply below_drew1 | refine below_set ?_ GE121.out | refine below_set ?_ GE125.out) | exact HB.out)) hb); clear HO134; clear HO137; clear HO141; clear BK121; clear BK125; clear HB; have HO134 := n0_; have HO137 := n1_; have HO141 := n2_; have HO145 := n3_; have BK121 := n4_; have BK125 := n5_; have HB := n6_; clear n0_ n1_ n2_ n3_ n4_ n5_ n6_; (try clear hb); (try clear hb2); (try clear hk); (try clear hi); (try clear ho0)))
              (try simp only [Act.put, List.setIfInBounds_toArray, List.set_cons_zero, List.set_cons_succ])
              go_cut [78] (fun v78 wc => ∃ (kq : Nat) (x78_24 : Bool), v78 = .bool x78_24 ∧ Aside0 (marlinelaw11_FrameParts.j1 kq y135 t138 t139 t143 x78_24 a0_0 a0_1 a0_2 a0_3 a0_4 a0_5 a0_6 = some r) ∧ Aside0 (kq ≤ kj2) ∧ Aside0 (Kd.R (Kd.int .u8) 5 wc w.heap.size (fun k_ => some k_ ≠ ((.slice Ao42 t139.length co42) : Value).ownBlock ∧ some k_ ≠ (v144 : Value).ownBlock) (.slice Ao39 y135.length co39) y135) ∧ Aside0 (Kd.R (Kd.int .u8) 5 wc w.heap.size (fun k_ => some k_ ≠ ((.slice Ao39 y135.length co39) : Value).ownBlock ∧ some k_ ≠ (v144 : Value).ownBlock) (.slice Ao42 t139.length co42) t139) ∧ Aside0 (Kd.R (Kd.int .u8) 5 wc w.heap.size (fun k_ => some k_ ≠ ((.slice Ao39 y135.length co39) : Value).ownBlock ∧ some k_ ≠ ((.slice Ao42 t139.length co42) : Value).ownBlock) v144 t143) ∧ Aside0 (wc.heap[gb121]? = some (.cells #[.bool a0_0, .bool a0_1, .bool a0_2, .bool a0_3, .int .u32 a0_4, .int .u32 a0_5, .int .i64 a0_6] 24 (0, 0))) ∧ Aside0 (wc.heap[gb125]? = some (.cells #[.bool a0_0, .bool a0_1, .bool a0_2, .bool a0_3, .int .u32 a0_4, .int .u32 a0_5, .int .i64 a0_6] 26 (0, 0))) ∧ Aside0 (Below w.heap.size w wc))
              case first =>
                have H := HC25.out
                clear HC25
                by_cases c44 : t146 = 0
                · rw [if_pos c44] at H
                  have c44b0 : (t146 == 0) = true := beq_iff_eq.mpr c44
                  have c44b1 : (t146 != 0) = false := bne_eq_false_iff_eq.mpr c44
                  clear c44
                  (first | rw [c44b0] | (simp only [i64_w, i32_w]; rw [c44b0]) | skip)
                  replace H := Option.bind_eq_some_iff.mp H
                  obtain ⟨t147, A450, H⟩ := H
                  replace H : (if t147 = true then (marlinelaw11_FrameParts.j1 kj2 y135 t138 t139 t143 (decide ((t139.length : Int) > a0_6)) a0_0 a0_1 a0_2 a0_3 a0_4 a0_5 a0_6) else (marlinelaw11_FrameParts.j1 kj2 y135 t138 t139 t143 true a0_0 a0_1 a0_2 a0_3 a0_4 a0_5 a0_6)) = some r := H
                  have A45 := Aside0.mk A450
                  clear A450
                  by_cases c46 : t147 = true
                  · subst c46
                    have H1 : (marlinelaw11_FrameParts.j1 kj2 y135 t138 t139 t143 (decide ((t139.length : Int) > a0_6)) a0_0 a0_1 a0_2 a0_3 a0_4 a0_5 a0_6) = some r := by rw [if_pos rfl] at H; exact H
                    clear H
                    have H := H1
                    clear H1
                    have H' := Aside0.mk H
                    clear H
                    go_wp2_with (first | (go_at_call 34; (with_reducible refine (marlineref09_Right.calls (wrap64 (t138)) true _ A45.out).mono ?_); rintro e w' ⟨rfl, ⟨nd, rfl⟩⟩; have hnb47 := NB121_125.out; have hnc47 := NB125_121.out; have hcz48_0 : w43.cell? ⟨gb121, 0, none⟩ = some (.bool a0_0) := (blk_cell BK121.out 0).trans rfl; have hcz48_1 : w43.cell? ⟨gb121, 1, none⟩ = some (.bool a0_1) := (blk_cell BK121.out 1).trans rfl; have hcz48_2 : w43.cell? ⟨gb121, 2, none⟩ = some (.bool a0_2) := (blk_cell BK121.out 2).trans rfl; have hcz48_3 : w43.cell? ⟨gb121, 3, none⟩ = some (.bool a0_3) := (blk_cell BK121.out 3).trans rfl; have hcz48_4 : w43.cell? ⟨gb121, 4, none⟩ = some (.int .u32 a0_4) := (blk_cell BK121.out 4).trans rfl; have hcz48_5 : w43.cell? ⟨gb121, 5, none⟩ = some (.int .u32 a0_5) := (blk_cell BK121.out 5).trans rfl; have hcz48_6 : w43.cell? ⟨gb121, 6, none⟩ = some (.int .i64 a0_6) := (blk_cell BK121.out 6).trans rfl; have hfz48_0 := blk_frozen BK121.out 0; have hfz48_1 := blk_frozen BK121.out 1; have hfz48_2 := blk_frozen BK121.out 2; have hfz48_3 := blk_frozen BK121.out 3; have hfz48_4 := blk_frozen BK121.out 4; have hfz48_5 := blk_frozen BK121.out 5; have hfz48_6 := blk_frozen BK121.out 6))
                    go_meet
                    case rel => exact ⟨_, (decide ((t139.length : Int) > a0_6)), (by first | rfl | (simp; done) | (simp [*]; done)), H', ⟨by have := HJ2.out; first | omega | exact Nat.le_refl _⟩, ⟨by (with_reducible repeat (first | apply Kd.R_alloc | apply Kd.R_drewN | apply Kd.R_drew)); exact Kd.R_mono HO137.out (fun _ hk => ⟨hk.1.2, hk.2⟩)⟩, ⟨by (with_reducible repeat (first | apply Kd.R_alloc | apply Kd.R_drewN | apply Kd.R_drew)); exact Kd.R_mono HO141.out (fun _ hk => ⟨hk.1.2, hk.2⟩)⟩, ⟨by (with_reducible repeat (first | apply Kd.R_alloc | apply Kd.R_drewN | apply Kd.R_drew)); exact Kd.R_mono HO145.out (fun _ hk => ⟨hk.1.2, hk.2⟩)⟩, ⟨by (with_reducible repeat (first | refine blk_drewN ?_ _ | refine blk_drew ?_ | refine blk_alloc ?_ _)); exact BK121.out⟩, ⟨by (with_reducible repeat (first | refine blk_drewN ?_ _ | refine blk_drew ?_ | refine blk_alloc ?_ _)); exact BK125.out⟩, ⟨by repeat (first | (with_reducible first | exact HB.out | apply below_alloc | apply pw_below_drewN | apply below_drew1 | refine below_set ?_ GE121.out | refine below_set ?_ GE125.out) | exact HB.out)⟩⟩
                  · replace c46 := Bool.eq_false_iff.mpr c46
                    subst c46
                    have H1 : (marlinelaw11_FrameParts.j1 kj2 y135 t138 t139 t143 true a0_0 a0_1 a0_2 a0_3 a0_4 a0_5 a0_6) = some r := by rw [if_neg (show ¬ (false = true) by decide)] at H; exact H
                    clear H
                    have H := H1
                    clear H1
                    have H' := Aside0.mk H
                    clear H
                    go_wp2_with (first | (go_at_call 34; (with_reducible refine (marlineref09_Right.calls (wrap64 (t138)) false _ A45.out).mono ?_); rintro e w' ⟨rfl, ⟨nd, rfl⟩⟩))
                    go_meet
                    case rel => exact ⟨_, (true), (by first | rfl | (simp; done) | (simp [*]; done)), H', ⟨by have := HJ2.out; first | omega | exact Nat.le_refl _⟩, ⟨by (with_reducible repeat (first | apply Kd.R_alloc | apply Kd.R_drewN | apply Kd.R_drew)); exact Kd.R_mono HO137.out (fun _ hk => ⟨hk.1.2, hk.2⟩)⟩, ⟨by (with_reducible repeat (first | apply Kd.R_alloc | apply Kd.R_drewN | apply Kd.R_drew)); exact Kd.R_mono HO141.out (fun _ hk => ⟨hk.1.2, hk.2⟩)⟩, ⟨by (with_reducible repeat (first | apply Kd.R_alloc | apply Kd.R_drewN | apply Kd.R_drew)); exact Kd.R_mono HO145.out (fun _ hk => ⟨hk.1.2, hk.2⟩)⟩, ⟨by (with_reducible repeat (first | refine blk_drewN ?_ _ | refine blk_drew ?_ | refine blk_alloc ?_ _)); exact BK121.out⟩, ⟨by (with_reducible repeat (first | refine blk_drewN ?_ _ | refine blk_drew ?_ | refine blk_alloc ?_ _)); exact BK125.out⟩, ⟨by repeat (first | (with_reducible first | exact HB.out | apply below_alloc | apply pw_below_drewN | apply below_drew1 | refine below_set ?_ GE121.out | refine below_set ?_ GE125.out) | exact HB.out)⟩⟩
                · rw [if_neg c44] at H
                  have c44b0 : (t146 == 0) = false := beq_eq_false_iff_ne.mpr c44
                  have c44b1 : (t146 != 0) = true := bne_iff_ne.mpr c44
                  (first | rw [c44b0] | (simp only [i64_w, i32_w]; rw [c44b0]) | skip)
                  have H' := Aside0.mk H
                  clear H
                  go_wp2
                  go_meet
                  case rel => exact ⟨_, (true), (by first | rfl | (simp; done) | (simp [*]; done)), H', ⟨by have := HJ2.out; first | omega | exact Nat.le_refl _⟩, ⟨by (with_reducible repeat (first | apply Kd.R_alloc | apply Kd.R_drewN | apply Kd.R_drew)); exact Kd.R_mono HO137.out (fun _ hk => ⟨hk.1.2, hk.2⟩)⟩, ⟨by (with_reducible repeat (first | apply Kd.R_alloc | apply Kd.R_drewN | apply Kd.R_drew)); exact Kd.R_mono HO141.out (fun _ hk => ⟨hk.1.2, hk.2⟩)⟩, ⟨by (with_reducible repeat (first | apply Kd.R_alloc | apply Kd.R_drewN | apply Kd.R_drew)); exact Kd.R_mono HO145.out (fun _ hk => ⟨hk.1.2, hk.2⟩)⟩, ⟨by (with_reducible repeat (first | refine blk_drewN ?_ _ | refine blk_drew ?_ | refine blk_alloc ?_ _)); exact BK121.out⟩, ⟨by (with_reducible repeat (first | refine blk_drewN ?_ _ | refine blk_drew ?_ | refine blk_alloc ?_ _)); exact BK125.out⟩, ⟨by repeat (first | (with_reducible first | exact HB.out | apply below_alloc | apply pw_below_drewN | apply below_drew1 | refine below_set ?_ GE121.out | refine below_set ?_ GE125.out) | exact HB.out)⟩⟩
              case rest =>
                clear HC25
                try clear c1
                try clear c2
                try clear p2
                try clear c4
                try clear c6
                try clear p6
                try clear c8
                try clear c8b0
                try clear c8b1
                try clear c14
                try clear c16
                try clear c19
                try clear c21
                try clear c23
                try clear c23b0
                try clear c23b1
                try clear c28
                try clear c40
                try clear c44
                try clear c44b0
                try clear c44b1
                try clear c46
                try clear c47
                try clear c48
                try clear hcz10_0
                try clear hcz10_1
                try clear hcz10_2
                try clear hcz10_3
                try clear hcz10_4
                try clear hcz10_5
                try clear hcz10_6
                try clear hcz13_0
                try clear hcz13_1
                try clear hcz13_2
                try clear hcz13_3
                try clear hcz13_4
                try clear hcz13_5
                try clear hcz13_6
                try clear hcz26_0
                try clear hcz26_1
                try clear hcz26_2
                try clear hcz26_3
                try clear hcz26_4
                try clear hcz26_5
                try clear hcz26_6
                try clear hcz29_0
                try clear hcz29_1
                try clear hcz29_2
                try clear hcz29_3
                try clear hcz29_4
                try clear hcz29_5
                try clear hcz29_6
                try clear hcz38_0
                try clear hcz38_1
                try clear hcz38_2
                try clear hcz38_3
                try clear hcz38_4
                try clear hcz38_5
                try clear hcz38_6
                try clear hcz41_0
                try clear hcz41_1
                try clear hcz41_2
                try clear hcz41_3
                try clear hcz41_4
                try clear hcz41_5
                try clear hcz41_6
                try clear hcz48_0
                try clear hcz48_1
                try clear hcz48_2
                try clear hcz48_3
                try clear hcz48_4
                try clear hcz48_5
                try clear hcz48_6
                try clear hfz10_0
                try clear hfz10_1
                try clear hfz10_2
                try clear hfz10_3
                try clear hfz10_4
                try clear hfz10_5
                try clear hfz10_6
                try clear hfz13_0
                try clear hfz13_1
                try clear hfz13_2
                try clear hfz13_3
                try clear hfz13_4
                try clear hfz13_5
                try clear hfz13_6
                try clear hfz26_0
                try clear hfz26_1
                try clear hfz26_2
                try clear hfz26_3
                try clear hfz26_4
                try clear hfz26_5
                try clear hfz26_6
                try clear hfz29_0
                try clear hfz29_1
                try clear hfz29_2
                try clear hfz29_3
                try clear hfz29_4
                try clear hfz29_5
                try clear hfz29_6
                try clear hfz38_0
                try clear hfz38_1
                try clear hfz38_2
                try clear hfz38_3
                try clear hfz38_4
                try clear hfz38_5
                try clear hfz38_6
                try clear hfz41_0
                try clear hfz41_1
                try clear hfz41_2
                try clear hfz41_3
                try clear hfz41_4
                try clear hfz41_5
                try clear hfz41_6
                try clear hfz48_0
                try clear hfz48_1
                try clear hfz48_2
                try clear hfz48_3
                try clear hfz48_4
                try clear hfz48_5
                try clear hfz48_6
                try clear p2
                obtain ⟨kq, x78_24, rfl, HA, HJ24, HO_6, HO_8, HO_10, BK121, BK125, HB⟩ := hcut
                cases kq with
                | zero => exact absurd HA.out (by simp [marlinelaw11_FrameParts.j1])
                | succ kj24 =>
                  have H := HA.out
                  clear HA
                  simp only [marlinelaw11_FrameParts.j1] at H
                  by_cases c49 : x78_24 = true
                  · subst c49
                    have H1 : (some false) = some r := by rw [if_pos rfl] at H; exact H
                    clear H
                    have H := H1
                    clear H1
                    obtain rfl := Option.some.inj H
                    go_wp2
                    go_ret
                    exact ⟨by first | rfl | (simp [errW_none, errW_some] <;> rfl) | (simp [*, errW_none, errW_some] <;> rfl), by repeat (first | (with_reducible first | exact HB.out | apply below_alloc | apply pw_below_drewN | apply below_drew1 | refine below_set ?_ GE121.out | refine below_set ?_ GE125.out) | exact HB.out)⟩
                  · replace c49 := Bool.eq_false_iff.mpr c49
                    subst c49
                    have H1 : ((frame_Parse.f kj24 a0_0 a0_1 a0_2 a0_3 a0_4 a0_5 a0_6 t143).bind fun bt148 => (if bt148.2.2 = 0 then (if bt148.1 = t138 then ((marlineref01_Equal.f kj24 bt148.2.1 t139).bind fun t153 => (if t153 = true then (if (t143.length : Int) ≤ (y135.length : Int) then (some true) else (some (t138 == 49185))) else (some false))) else (some false)) else (some false))) = some r := by rw [if_neg (show ¬ (false = true) by decide)] at H; exact H
                    clear H
                    have H := H1
                    clear H1
                    replace H := Option.bind_eq_some_iff.mp H
                    obtain ⟨⟨t148, t149, t152⟩, A500, H⟩ := H
                    replace H : (if t152 = 0 then (if t148 = t138 then ((marlineref01_Equal.f kj24 t149 t139).bind fun t153 => (if t153 = true then (if (t143.length : Int) ≤ (y135.length : Int) then (some true) else (some (t138 == 49185))) else (some false))) else (some false)) else (some false)) = some r := H
                    have A50 := Aside0.mk A500
                    clear A500
                    by_cases c51 : t152 = 0
                    · rw [if_pos c51] at H
                      have c51b0 : (t152 == 0) = true := beq_iff_eq.mpr c51
                      have c51b1 : (t152 != 0) = false := bne_eq_false_iff_eq.mpr c51
                      clear c51
                      by_cases c52 : t148 = t138
                      · rw [if_pos c52] at H
                        have c52b0 : (t148 == t138) = true := beq_iff_eq.mpr c52
                        have c52b1 : (t148 != t138) = false := bne_eq_false_iff_eq.mpr c52
                        clear c52
                        replace H := Option.bind_eq_some_iff.mp H
                        obtain ⟨t153, A530, H⟩ := H
                        replace H : (if t153 = true then (if (t143.length : Int) ≤ (y135.length : Int) then (some true) else (some (t138 == 49185))) else (some false)) = some r := H
                        have A53 := Aside0.mk A530
                        clear A530
                        by_cases c54 : t153 = true
                        · subst c54
                          have H1 : (if (t143.length : Int) ≤ (y135.length : Int) then (some true) else (some (t138 == 49185))) = some r := by rw [if_pos rfl] at H; exact H
                          clear H
                          have H := H1
                          clear H1
                          by_cases c55 : (t143.length : Int) ≤ (y135.length : Int)
                          · rw [if_pos c55] at H
                            have c55b0 : decide ((t143.length : Int) ≤ (y135.length : Int)) = true := decide_eq_true c55
                            have c55b1 : decide (t143.length ≤ y135.length) = true := decide_eq_true (Int.ofNat_le.mp c55)
                            clear c55
                            obtain rfl := Option.some.inj H
                            have hnb56 := NB125_121.out
                            have hnc56 := NB121_125.out
                            have hcz57_0 : wc.cell? ⟨gb125, 0, none⟩ = some (.bool a0_0) := (blk_cell BK125.out 0).trans rfl
                            have hcz57_1 : wc.cell? ⟨gb125, 1, none⟩ = some (.bool a0_1) := (blk_cell BK125.out 1).trans rfl
                            have hcz57_2 : wc.cell? ⟨gb125, 2, none⟩ = some (.bool a0_2) := (blk_cell BK125.out 2).trans rfl
                            have hcz57_3 : wc.cell? ⟨gb125, 3, none⟩ = some (.bool a0_3) := (blk_cell BK125.out 3).trans rfl
                            have hcz57_4 : wc.cell? ⟨gb125, 4, none⟩ = some (.int .u32 a0_4) := (blk_cell BK125.out 4).trans rfl
                            have hcz57_5 : wc.cell? ⟨gb125, 5, none⟩ = some (.int .u32 a0_5) := (blk_cell BK125.out 5).trans rfl
                            have hcz57_6 : wc.cell? ⟨gb125, 6, none⟩ = some (.int .i64 a0_6) := (blk_cell BK125.out 6).trans rfl
                            have hfz57_0 := blk_frozen BK125.out 0
                            have hfz57_1 := blk_frozen BK125.out 1
                            have hfz57_2 := blk_frozen BK125.out 2
                            have hfz57_3 := blk_frozen BK125.out 3
                            have hfz57_4 := blk_frozen BK125.out 4
                            have hfz57_5 := blk_frozen BK125.out 5
                            have hfz57_6 := blk_frozen BK125.out 6
                            obtain ⟨Ao58, co58, eo58⟩ := Kd.R_slice HO_10.out
                            subst eo58
                            go_wp2_with (first | ((with_reducible refine gate_callee (f := 49) rfl ?_); refine goesL_ (some 82) rfl rfl Tryd.func49 (by kernel_rfl) rfl #[.agg #[.bool a0_0, .bool a0_1, .bool a0_2, .bool a0_3, .int .u32 a0_4, .int .u32 a0_5, .int .i64 a0_6], .slice Ao58 t143.length co58] rfl (by (try simp only [List.map_toArray, List.map_cons, List.map_nil]); first | done | rfl | (simp only [List.length_drop, List.length_take]; rfl)) ?_; (with_reducible refine (frame_Parse.calls kj24 a0_0 a0_1 a0_2 a0_3 a0_4 a0_5 a0_6 _ _ t143 t148 t149 t152 _ ?side1 ?side2 ?side3 ?side4 A50.out).mono ?_); (case side1 => repeat (first | exact (Kd.R_reads' HO_10.out).2.2 | (with_reducible refine Kd.C_alloc ?_ _) | (with_reducible refine Kd.C_drewN ?_ _) | (with_reducible refine Kd.C_drew ?_))); (case side2 => exact (Kd.R_reads' HO_10.out).2.1); (case side3 => repeat (first | exact (GF_below HGF.out HB.out) | (with_reducible refine GF_alloc ?_ _) | (with_reducible refine GF_drewN ?_ _) | (with_reducible refine GF_drew ?_))); (case side4 => repeat (first | exact (GH_below HGH.out HB.out) | (with_reducible refine GH_alloc ?_ _) | (with_reducible refine GH_drewN ?_ _) | (with_reducible refine GH_drew ?_))); rintro e w59 ⟨v150, rfl, ho0, hb⟩; refine ⟨_, rfl, ?_⟩; have n0_ := Aside0.mk (Kd.R_elder' (by (with_reducible repeat (first | apply Kd.R_alloc | apply Kd.R_drewN | apply Kd.R_drew)); exact HO_6.out) (Kd.R_base ho0) hb); have n1_ := Aside0.mk (Kd.R_elder' (by (with_reducible repeat (first | apply Kd.R_alloc | apply Kd.R_drewN | apply Kd.R_drew)); exact HO_8.out) (Kd.R_base ho0) hb); have n2_ := Aside0.mk (Kd.R_elder' (by (with_reducible repeat (first | apply Kd.R_alloc | apply Kd.R_drewN | apply Kd.R_drew)); exact HO_10.out) (Kd.R_base ho0) hb); have n3_ := Aside0.mk (Kd.R_lower (Kd.R_new' (Kd.R_new' (Kd.R_new' ho0 (Kd.R_lt (by (with_reducible repeat (first | apply Kd.R_alloc | apply Kd.R_drewN | apply Kd.R_drew)); exact HO_6.out))) (Kd.R_lt (by (with_reducible repeat (first | apply Kd.R_alloc | apply Kd.R_drewN | apply Kd.R_drew)); exact HO_8.out))) (Kd.R_lt (by (with_reducible repeat (first | apply Kd.R_alloc | apply Kd.R_drewN | apply Kd.R_drew)); exact HO_10.out))) (below_size (by repeat (first | (with_reducible first | exact HB.out | apply below_alloc | apply pw_below_drewN | apply below_drew1 | refine below_set ?_ GE121.out | refine below_set ?_ GE125.out) | exact HB.out)))); have n4_ := Aside0.mk (blk_below (g := gb121) (o := .cells #[.bool a0_0, .bool a0_1, .bool a0_2, .bool a0_3, .int .u32 a0_4, .int .u32 a0_5, .int .i64 a0_6] 24 (0, 0)) (by (with_reducible repeat (first | refine blk_drewN ?_ _ | refine blk_drew ?_ | refine blk_alloc ?_ _)); exact BK121.out) hb); have n5_ := Aside0.mk (blk_below (g := gb125) (o := .cells #[.bool a0_0, .bool a0_1, .bool a0_2, .bool a0_3, .int .u32 a0_4, .int .u32 a0_5, .int .i64 a0_6] 26 (0, 0)) (by (with_reducible repeat (first | refine blk_drewN ?_ _ | refine blk_drew ?_ | refine blk_alloc ?_ _)); exact BK125.out) hb); have n6_ := Aside0.mk (below_step (by repeat (first | (with_reducible first | exact HB.out | apply below_alloc | apply pw_below_drewN | apply below_drew1 | refine below_set ?_ GE121.out | refine below_set ?_ GE125.out) | exact HB.out)) hb); clear HO_6; clear HO_8; clear HO_10; clear BK121; clear BK125; clear HB; have HO_6 := n0_; have HO_8 := n1_; have HO_10 := n2_; have HO151 := n3_; have BK121 := n4_; have BK125 := n5_; have HB := n6_; clear n0_ n1_ n2_ n3_ n4_ n5_ n6_; (try clear hb); (try clear hb2); (try clear hk); (try clear hi); (try clear ho0); obtain ⟨Ao60, co60, eo60⟩ := Kd.R_slice HO151.out; subst eo60) | (go_at_call 31; (with_reducible refine (marlineref01_Equal.calls kj24 _ _ t149 _ _ t139 true _ ?side1 ?side2 ?side3 ?side4 A53.out).mono ?_); (case side1 => repeat (first | exact (Kd.R_reads' HO151.out).2.2 | (with_reducible refine Kd.C_alloc ?_ _) | (with_reducible refine Kd.C_drewN ?_ _) | (with_reducible refine Kd.C_drew ?_))); (case side2 => exact (Kd.R_reads' HO151.out).2.1); (case side3 => repeat (first | exact (Kd.R_reads' HO_8.out).2.2 | (with_reducible refine Kd.C_alloc ?_ _) | (with_reducible refine Kd.C_drewN ?_ _) | (with_reducible refine Kd.C_drew ?_))); (case side4 => exact (Kd.R_reads' HO_8.out).2.1); rintro e w' ⟨rfl, ⟨nd, rfl⟩⟩))
                            go_ret
                            exact ⟨by first | rfl | (simp [errW_none, errW_some] <;> rfl) | (simp [*, errW_none, errW_some] <;> rfl), by repeat (first | (with_reducible first | exact HB.out | apply below_alloc | apply pw_below_drewN | apply below_drew1 | refine below_set ?_ GE121.out | refine below_set ?_ GE125.out) | exact HB.out)⟩
                          · rw [if_neg c55] at H
                            have c55b0 : decide ((t143.length : Int) ≤ (y135.length : Int)) = false := decide_eq_false c55
                            have c55b1 : decide (t143.length ≤ y135.length) = false := decide_eq_false (fun h => c55 (Int.ofNat_le.mpr h))
                            clear c55
                            obtain rfl := Option.some.inj H
                            have hnb61 := NB125_121.out
                            have hnc61 := NB121_125.out
                            have hcz62_0 : wc.cell? ⟨gb125, 0, none⟩ = some (.bool a0_0) := (blk_cell BK125.out 0).trans rfl
                            have hcz62_1 : wc.cell? ⟨gb125, 1, none⟩ = some (.bool a0_1) := (blk_cell BK125.out 1).trans rfl
                            have hcz62_2 : wc.cell? ⟨gb125, 2, none⟩ = some (.bool a0_2) := (blk_cell BK125.out 2).trans rfl
                            have hcz62_3 : wc.cell? ⟨gb125, 3, none⟩ = some (.bool a0_3) := (blk_cell BK125.out 3).trans rfl
                            have hcz62_4 : wc.cell? ⟨gb125, 4, none⟩ = some (.int .u32 a0_4) := (blk_cell BK125.out 4).trans rfl
                            have hcz62_5 : wc.cell? ⟨gb125, 5, none⟩ = some (.int .u32 a0_5) := (blk_cell BK125.out 5).trans rfl
                            have hcz62_6 : wc.cell? ⟨gb125, 6, none⟩ = some (.int .i64 a0_6) := (blk_cell BK125.out 6).trans rfl
                            have hfz62_0 := blk_frozen BK125.out 0
                            have hfz62_1 := blk_frozen BK125.out 1
                            have hfz62_2 := blk_frozen BK125.out 2
                            have hfz62_3 := blk_frozen BK125.out 3
                            have hfz62_4 := blk_frozen BK125.out 4
                            have hfz62_5 := blk_frozen BK125.out 5
                            have hfz62_6 := blk_frozen BK125.out 6
                            obtain ⟨Ao63, co63, eo63⟩ := Kd.R_slice HO_10.out
                            subst eo63
                            go_wp2_with (first | ((with_reducible refine gate_callee (f := 49) rfl ?_); refine goesL_ (some 82) rfl rfl Tryd.func49 (by kernel_rfl) rfl #[.agg #[.bool a0_0, .bool a0_1, .bool a0_2, .bool a0_3, .int .u32 a0_4, .int .u32 a0_5, .int .i64 a0_6], .slice Ao63 t143.length co63] rfl (by (try simp only [List.map_toArray, List.map_cons, List.map_nil]); first | done | rfl | (simp only [List.length_drop, List.length_take]; rfl)) ?_; (with_reducible refine (frame_Parse.calls kj24 a0_0 a0_1 a0_2 a0_3 a0_4 a0_5 a0_6 _ _ t143 t148 t149 t152 _ ?side1 ?side2 ?side3 ?side4 A50.out).mono ?_); (case side1 => repeat (first | exact (Kd.R_reads' HO_10.out).2.2 | (with_reducible refine Kd.C_alloc ?_ _) | (with_reducible refine Kd.C_drewN ?_ _) | (with_reducible refine Kd.C_drew ?_))); (case side2 => exact (Kd.R_reads' HO_10.out).2.1); (case side3 => repeat (first | exact (GF_below HGF.out HB.out) | (with_reducible refine GF_alloc ?_ _) | (with_reducible refine GF_drewN ?_ _) | (with_reducible refine GF_drew ?_))); (case side4 => repeat (first | exact (GH_below HGH.out HB.out) | (with_reducible refine GH_alloc ?_ _) | (with_reducible refine GH_drewN ?_ _) | (with_reducible refine GH_drew ?_))); rintro e w64 ⟨v150, rfl, ho0, hb⟩; refine ⟨_, rfl, ?_⟩; have n0_ := Aside0.mk (Kd.R_elder' (by (with_reducible repeat (first | apply Kd.R_alloc | apply Kd.R_drewN | apply Kd.R_drew)); exact HO_6.out) (Kd.R_base ho0) hb); have n1_ := Aside0.mk (Kd.R_elder' (by (with_reducible repeat (first | apply Kd.R_alloc | apply Kd.R_drewN | apply Kd.R_drew)); exact HO_8.out) (Kd.R_base ho0) hb); have n2_ := Aside0.mk (Kd.R_elder' (by (with_reducible repeat (first | apply Kd.R_alloc | apply Kd.R_drewN | apply Kd.R_drew)); exact HO_10.out) (Kd.R_base ho0) hb); have n3_ := Aside0.mk (Kd.R_lower (Kd.R_new' (Kd.R_new' (Kd.R_new' ho0 (Kd.R_lt (by (with_reducible repeat (first | apply Kd.R_alloc | apply Kd.R_drewN | apply Kd.R_drew)); exact HO_6.out))) (Kd.R_lt (by (with_reducible repeat (first | apply Kd.R_alloc | apply Kd.R_drewN | apply Kd.R_drew)); exact HO_8.out))) (Kd.R_lt (by (with_reducible repeat (first | apply Kd.R_alloc | apply Kd.R_drewN | apply Kd.R_drew)); exact HO_10.out))) (below_size (by repeat (first | (with_reducible first | exact HB.out | apply below_alloc | apply pw_below_drewN | apply below_drew1 | refine below_set ?_ GE121.out | refine below_set ?_ GE125.out) | exact HB.out)))); have n4_ := Aside0.mk (blk_below (g := gb121) (o := .cells #[.bool a0_0, .bool a0_1, .bool a0_2, .bool a0_3, .int .u32 a0_4, .int .u32 a0_5, .int .i64 a0_6] 24 (0, 0)) (by (with_reducible repeat (first | refine blk_drewN ?_ _ | refine blk_drew ?_ | refine blk_alloc ?_ _)); exact BK121.out) hb); have n5_ := Aside0.mk (blk_below (g := gb125) (o := .cells #[.bool a0_0, .bool a0_1, .bool a0_2, .bool a0_3, .int .u32 a0_4, .int .u32 a0_5, .int .i64 a0_6] 26 (0, 0)) (by (with_reducible repeat (first | refine blk_drewN ?_ _ | refine blk_drew ?_ | refine blk_alloc ?_ _)); exact BK125.out) hb); have n6_ := Aside0.mk (below_step (by repeat (first | (with_reducible first | exact HB.out | apply below_alloc | apply pw_below_drewN | apply below_drew1 | refine below_set ?_ GE121.out | refine below_set ?_ GE125.out) | exact HB.out)) hb); clear HO_6; clear HO_8; clear HO_10; clear BK121; clear BK125; clear HB; have HO_6 := n0_; have HO_8 := n1_; have HO_10 := n2_; have HO151 := n3_; have BK121 := n4_; have BK125 := n5_; have HB := n6_; clear n0_ n1_ n2_ n3_ n4_ n5_ n6_; (try clear hb); (try clear hb2); (try clear hk); (try clear hi); (try clear ho0); obtain ⟨Ao65, co65, eo65⟩ := Kd.R_slice HO151.out; subst eo65) | (go_at_call 31; (with_reducible refine (marlineref01_Equal.calls kj24 _ _ t149 _ _ t139 true _ ?side1 ?side2 ?side3 ?side4 A53.out).mono ?_); (case side1 => repeat (first | exact (Kd.R_reads' HO151.out).2.2 | (with_reducible refine Kd.C_alloc ?_ _) | (with_reducible refine Kd.C_drewN ?_ _) | (with_reducible refine Kd.C_drew ?_))); (case side2 => exact (Kd.R_reads' HO151.out).2.1); (case side3 => repeat (first | exact (Kd.R_reads' HO_8.out).2.2 | (with_reducible refine Kd.C_alloc ?_ _) | (with_reducible refine Kd.C_drewN ?_ _) | (with_reducible refine Kd.C_drew ?_))); (case side4 => exact (Kd.R_reads' HO_8.out).2.1); rintro e w' ⟨rfl, ⟨nd, rfl⟩⟩))
                            go_ret
                            exact ⟨by first | rfl | (simp [errW_none, errW_some] <;> rfl) | (simp [*, errW_none, errW_some] <;> rfl), by repeat (first | (with_reducible first | exact HB.out | apply below_alloc | apply pw_below_drewN | apply below_drew1 | refine below_set ?_ GE121.out | refine below_set ?_ GE125.out) | exact HB.out)⟩
                        · replace c54 := Bool.eq_false_iff.mpr c54
                          subst c54
                          have H1 : (some false) = some r := by rw [if_neg (show ¬ (false = true) by decide)] at H; exact H
                          clear H
                          have H := H1
                          clear H1
                          obtain rfl := Option.some.inj H
                          have hnb66 := NB125_121.out
                          have hnc66 := NB121_125.out
                          have hcz67_0 : wc.cell? ⟨gb125, 0, none⟩ = some (.bool a0_0) := (blk_cell BK125.out 0).trans rfl
                          have hcz67_1 : wc.cell? ⟨gb125, 1, none⟩ = some (.bool a0_1) := (blk_cell BK125.out 1).trans rfl
                          have hcz67_2 : wc.cell? ⟨gb125, 2, none⟩ = some (.bool a0_2) := (blk_cell BK125.out 2).trans rfl
                          have hcz67_3 : wc.cell? ⟨gb125, 3, none⟩ = some (.bool a0_3) := (blk_cell BK125.out 3).trans rfl
                          have hcz67_4 : wc.cell? ⟨gb125, 4, none⟩ = some (.int .u32 a0_4) := (blk_cell BK125.out 4).trans rfl
                          have hcz67_5 : wc.cell? ⟨gb125, 5, none⟩ = some (.int .u32 a0_5) := (blk_cell BK125.out 5).trans rfl
                          have hcz67_6 : wc.cell? ⟨gb125, 6, none⟩ = some (.int .i64 a0_6) := (blk_cell BK125.out 6).trans rfl
                          have hfz67_0 := blk_frozen BK125.out 0
                          have hfz67_1 := blk_frozen BK125.out 1
                          have hfz67_2 := blk_frozen BK125.out 2
                          have hfz67_3 := blk_frozen BK125.out 3
                          have hfz67_4 := blk_frozen BK125.out 4
                          have hfz67_5 := blk_frozen BK125.out 5
                          have hfz67_6 := blk_frozen BK125.out 6
                          obtain ⟨Ao68, co68, eo68⟩ := Kd.R_slice HO_10.out
                          subst eo68
                          go_wp2_with (first | ((with_reducible refine gate_callee (f := 49) rfl ?_); refine goesL_ (some 82) rfl rfl Tryd.func49 (by kernel_rfl) rfl #[.agg #[.bool a0_0, .bool a0_1, .bool a0_2, .bool a0_3, .int .u32 a0_4, .int .u32 a0_5, .int .i64 a0_6], .slice Ao68 t143.length co68] rfl (by (try simp only [List.map_toArray, List.map_cons, List.map_nil]); first | done | rfl | (simp only [List.length_drop, List.length_take]; rfl)) ?_; (with_reducible refine (frame_Parse.calls kj24 a0_0 a0_1 a0_2 a0_3 a0_4 a0_5 a0_6 _ _ t143 t148 t149 t152 _ ?side1 ?side2 ?side3 ?side4 A50.out).mono ?_); (case side1 => repeat (first | exact (Kd.R_reads' HO_10.out).2.2 | (with_reducible refine Kd.C_alloc ?_ _) | (with_reducible refine Kd.C_drewN ?_ _) | (with_reducible refine Kd.C_drew ?_))); (case side2 => exact (Kd.R_reads' HO_10.out).2.1); (case side3 => repeat (first | exact (GF_below HGF.out HB.out) | (with_reducible refine GF_alloc ?_ _) | (with_reducible refine GF_drewN ?_ _) | (with_reducible refine GF_drew ?_))); (case side4 => repeat (first | exact (GH_below HGH.out HB.out) | (with_reducible refine GH_alloc ?_ _) | (with_reducible refine GH_drewN ?_ _) | (with_reducible refine GH_drew ?_))); rintro e w69 ⟨v150, rfl, ho0, hb⟩; refine ⟨_, rfl, ?_⟩; have n0_ := Aside0.mk (Kd.R_elder' (by (with_reducible repeat (first | apply Kd.R_alloc | apply Kd.R_drewN | apply Kd.R_drew)); exact HO_6.out) (Kd.R_base ho0) hb); have n1_ := Aside0.mk (Kd.R_elder' (by (with_reducible repeat (first | apply Kd.R_alloc | apply Kd.R_drewN | apply Kd.R_drew)); exact HO_8.out) (Kd.R_base ho0) hb); have n2_ := Aside0.mk (Kd.R_elder' (by (with_reducible repeat (first | apply Kd.R_alloc | apply Kd.R_drewN | apply Kd.R_drew)); exact HO_10.out) (Kd.R_base ho0) hb); have n3_ := Aside0.mk (Kd.R_lower (Kd.R_new' (Kd.R_new' (Kd.R_new' ho0 (Kd.R_lt (by (with_reducible repeat (first | apply Kd.R_alloc | apply Kd.R_drewN | apply Kd.R_drew)); exact HO_6.out))) (Kd.R_lt (by (with_reducible repeat (first | apply Kd.R_alloc | apply Kd.R_drewN | apply Kd.R_drew)); exact HO_8.out))) (Kd.R_lt (by (with_reducible repeat (first | apply Kd.R_alloc | apply Kd.R_drewN | apply Kd.R_drew)); exact HO_10.out))) (below_size (by repeat (first | (with_reducible first | exact HB.out | apply below_alloc | apply pw_below_drewN | apply below_drew1 | refine below_set ?_ GE121.out | refine below_set ?_ GE125.out) | exact HB.out)))); have n4_ := Aside0.mk (blk_below (g := gb121) (o := .cells #[.bool a0_0, .bool a0_1, .bool a0_2, .bool a0_3, .int .u32 a0_4, .int .u32 a0_5, .int .i64 a0_6] 24 (0, 0)) (by (with_reducible repeat (first | refine blk_drewN ?_ _ | refine blk_drew ?_ | refine blk_alloc ?_ _)); exact BK121.out) hb); have n5_ := Aside0.mk (blk_below (g := gb125) (o := .cells #[.bool a0_0, .bool a0_1, .bool a0_2, .bool a0_3, .int .u32 a0_4, .int .u32 a0_5, .int .i64 a0_6] 26 (0, 0)) (by (with_reducible repeat (first | refine blk_drewN ?_ _ | refine blk_drew ?_ | refine blk_alloc ?_ _)); exact BK125.out) hb); have n6_ := Aside0.mk (below_step (by repeat (first | (with_reducible first | exact HB.out | apply below_alloc | apply pw_below_drewN | apply below_drew1 | refine below_set ?_ GE121.out | refine below_set ?_ GE125.out) | exact HB.out)) hb); clear HO_6; clear HO_8; clear HO_10; clear BK121; clear BK125; clear HB; have HO_6 := n0_; have HO_8 := n1_; have HO_10 := n2_; have HO151 := n3_; have BK121 := n4_; have BK125 := n5_; have HB := n6_; clear n0_ n1_ n2_ n3_ n4_ n5_ n6_; (try clear hb); (try clear hb2); (try clear hk); (try clear hi); (try clear ho0); obtain ⟨Ao70, co70, eo70⟩ := Kd.R_slice HO151.out; subst eo70) | (go_at_call 31; (with_reducible refine (marlineref01_Equal.calls kj24 _ _ t149 _ _ t139 false _ ?side1 ?side2 ?side3 ?side4 A53.out).mono ?_); (case side1 => repeat (first | exact (Kd.R_reads' HO151.out).2.2 | (with_reducible refine Kd.C_alloc ?_ _) | (with_reducible refine Kd.C_drewN ?_ _) | (with_reducible refine Kd.C_drew ?_))); (case side2 => exact (Kd.R_reads' HO151.out).2.1); (case side3 => repeat (first | exact (Kd.R_reads' HO_8.out).2.2 | (with_reducible refine Kd.C_alloc ?_ _) | (with_reducible refine Kd.C_drewN ?_ _) | (with_reducible refine Kd.C_drew ?_))); (case side4 => exact (Kd.R_reads' HO_8.out).2.1); rintro e w' ⟨rfl, ⟨nd, rfl⟩⟩))
                          go_ret
                          exact ⟨by first | rfl | (simp [errW_none, errW_some] <;> rfl) | (simp [*, errW_none, errW_some] <;> rfl), by repeat (first | (with_reducible first | exact HB.out | apply below_alloc | apply pw_below_drewN | apply below_drew1 | refine below_set ?_ GE121.out | refine below_set ?_ GE125.out) | exact HB.out)⟩
                      · rw [if_neg c52] at H
                        have c52b0 : (t148 == t138) = false := beq_eq_false_iff_ne.mpr c52
                        have c52b1 : (t148 != t138) = true := bne_iff_ne.mpr c52
                        obtain rfl := Option.some.inj H
                        have hnb71 := NB125_121.out
                        have hnc71 := NB121_125.out
                        have hcz72_0 : wc.cell? ⟨gb125, 0, none⟩ = some (.bool a0_0) := (blk_cell BK125.out 0).trans rfl
                        have hcz72_1 : wc.cell? ⟨gb125, 1, none⟩ = some (.bool a0_1) := (blk_cell BK125.out 1).trans rfl
                        have hcz72_2 : wc.cell? ⟨gb125, 2, none⟩ = some (.bool a0_2) := (blk_cell BK125.out 2).trans rfl
                        have hcz72_3 : wc.cell? ⟨gb125, 3, none⟩ = some (.bool a0_3) := (blk_cell BK125.out 3).trans rfl
                        have hcz72_4 : wc.cell? ⟨gb125, 4, none⟩ = some (.int .u32 a0_4) := (blk_cell BK125.out 4).trans rfl
                        have hcz72_5 : wc.cell? ⟨gb125, 5, none⟩ = some (.int .u32 a0_5) := (blk_cell BK125.out 5).trans rfl
                        have hcz72_6 : wc.cell? ⟨gb125, 6, none⟩ = some (.int .i64 a0_6) := (blk_cell BK125.out 6).trans rfl
                        have hfz72_0 := blk_frozen BK125.out 0
                        have hfz72_1 := blk_frozen BK125.out 1
                        have hfz72_2 := blk_frozen BK125.out 2
                        have hfz72_3 := blk_frozen BK125.out 3
                        have hfz72_4 := blk_frozen BK125.out 4
                        have hfz72_5 := blk_frozen BK125.out 5
                        have hfz72_6 := blk_frozen BK125.out 6
                        obtain ⟨Ao73, co73, eo73⟩ := Kd.R_slice HO_10.out
                        subst eo73
                        go_wp2_with (first | ((with_reducible refine gate_callee (f := 49) rfl ?_); refine goesL_ (some 82) rfl rfl Tryd.func49 (by kernel_rfl) rfl #[.agg #[.bool a0_0, .bool a0_1, .bool a0_2, .bool a0_3, .int .u32 a0_4, .int .u32 a0_5, .int .i64 a0_6], .slice Ao73 t143.length co73] rfl (by (try simp only [List.map_toArray, List.map_cons, List.map_nil]); first | done | rfl | (simp only [List.length_drop, List.length_take]; rfl)) ?_; (with_reducible refine (frame_Parse.calls kj24 a0_0 a0_1 a0_2 a0_3 a0_4 a0_5 a0_6 _ _ t143 t148 t149 t152 _ ?side1 ?side2 ?side3 ?side4 A50.out).mono ?_); (case side1 => repeat (first | exact (Kd.R_reads' HO_10.out).2.2 | (with_reducible refine Kd.C_alloc ?_ _) | (with_reducible refine Kd.C_drewN ?_ _) | (with_reducible refine Kd.C_drew ?_))); (case side2 => exact (Kd.R_reads' HO_10.out).2.1); (case side3 => repeat (first | exact (GF_below HGF.out HB.out) | (with_reducible refine GF_alloc ?_ _) | (with_reducible refine GF_drewN ?_ _) | (with_reducible refine GF_drew ?_))); (case side4 => repeat (first | exact (GH_below HGH.out HB.out) | (with_reducible refine GH_alloc ?_ _) | (with_reducible refine GH_drewN ?_ _) | (with_reducible refine GH_drew ?_))); rintro e w74 ⟨v150, rfl, ho0, hb⟩; refine ⟨_, rfl, ?_⟩; have n0_ := Aside0.mk (Kd.R_elder' (by (with_reducible repeat (first | apply Kd.R_alloc | apply Kd.R_drewN | apply Kd.R_drew)); exact HO_6.out) (Kd.R_base ho0) hb); have n1_ := Aside0.mk (Kd.R_elder' (by (with_reducible repeat (first | apply Kd.R_alloc | apply Kd.R_drewN | apply Kd.R_drew)); exact HO_8.out) (Kd.R_base ho0) hb); have n2_ := Aside0.mk (Kd.R_elder' (by (with_reducible repeat (first | apply Kd.R_alloc | apply Kd.R_drewN | apply Kd.R_drew)); exact HO_10.out) (Kd.R_base ho0) hb); have n3_ := Aside0.mk (Kd.R_lower (Kd.R_new' (Kd.R_new' (Kd.R_new' ho0 (Kd.R_lt (by (with_reducible repeat (first | apply Kd.R_alloc | apply Kd.R_drewN | apply Kd.R_drew)); exact HO_6.out))) (Kd.R_lt (by (with_reducible repeat (first | apply Kd.R_alloc | apply Kd.R_drewN | apply Kd.R_drew)); exact HO_8.out))) (Kd.R_lt (by (with_reducible repeat (first | apply Kd.R_alloc | apply Kd.R_drewN | apply Kd.R_drew)); exact HO_10.out))) (below_size (by repeat (first | (with_reducible first | exact HB.out | apply below_alloc | apply pw_below_drewN | apply below_drew1 | refine below_set ?_ GE121.out | refine below_set ?_ GE125.out) | exact HB.out)))); have n4_ := Aside0.mk (blk_below (g := gb121) (o := .cells #[.bool a0_0, .bool a0_1, .bool a0_2, .bool a0_3, .int .u32 a0_4, .int .u32 a0_5, .int .i64 a0_6] 24 (0, 0)) (by (with_reducible repeat (first | refine blk_drewN ?_ _ | refine blk_drew ?_ | refine blk_alloc ?_ _)); exact BK121.out) hb); have n5_ := Aside0.mk (blk_below (g := gb125) (o := .cells #[.bool a0_0, .bool a0_1, .bool a0_2, .bool a0_3, .int .u32 a0_4, .int .u32 a0_5, .int .i64 a0_6] 26 (0, 0)) (by (with_reducible repeat (first | refine blk_drewN ?_ _ | refine blk_drew ?_ | refine blk_alloc ?_ _)); exact BK125.out) hb); have n6_ := Aside0.mk (below_step (by repeat (first | (with_reducible first | exact HB.out | apply below_alloc | apply pw_below_drewN | apply below_drew1 | refine below_set ?_ GE121.out | refine below_set ?_ GE125.out) | exact HB.out)) hb); clear HO_6; clear HO_8; clear HO_10; clear BK121; clear BK125; clear HB; have HO_6 := n0_; have HO_8 := n1_; have HO_10 := n2_; have HO151 := n3_; have BK121 := n4_; have BK125 := n5_; have HB := n6_; clear n0_ n1_ n2_ n3_ n4_ n5_ n6_; (try clear hb); (try clear hb2); (try clear hk); (try clear hi); (try clear ho0)))
                        go_ret
                        exact ⟨by first | rfl | (simp [errW_none, errW_some] <;> rfl) | (simp [*, errW_none, errW_some] <;> rfl), by repeat (first | (with_reducible first | exact HB.out | apply below_alloc | apply pw_below_drewN | apply below_drew1 | refine below_set ?_ GE121.out | refine below_set ?_ GE125.out) | exact HB.out)⟩
                    · rw [if_neg c51] at H
                      have c51b0 : (t152 == 0) = false := beq_eq_false_iff_ne.mpr c51
                      have c51b1 : (t152 != 0) = true := bne_iff_ne.mpr c51
                      obtain rfl := Option.some.inj H
                      have hnb75 := NB125_121.out
                      have hnc75 := NB121_125.out
                      have hcz76_0 : wc.cell? ⟨gb125, 0, none⟩ = some (.bool a0_0) := (blk_cell BK125.out 0).trans rfl
                      have hcz76_1 : wc.cell? ⟨gb125, 1, none⟩ = some (.bool a0_1) := (blk_cell BK125.out 1).trans rfl
                      have hcz76_2 : wc.cell? ⟨gb125, 2, none⟩ = some (.bool a0_2) := (blk_cell BK125.out 2).trans rfl
                      have hcz76_3 : wc.cell? ⟨gb125, 3, none⟩ = some (.bool a0_3) := (blk_cell BK125.out 3).trans rfl
                      have hcz76_4 : wc.cell? ⟨gb125, 4, none⟩ = some (.int .u32 a0_4) := (blk_cell BK125.out 4).trans rfl
                      have hcz76_5 : wc.cell? ⟨gb125, 5, none⟩ = some (.int .u32 a0_5) := (blk_cell BK125.out 5).trans rfl
                      have hcz76_6 : wc.cell? ⟨gb125, 6, none⟩ = some (.int .i64 a0_6) := (blk_cell BK125.out 6).trans rfl
                      have hfz76_0 := blk_frozen BK125.out 0
                      have hfz76_1 := blk_frozen BK125.out 1
                      have hfz76_2 := blk_frozen BK125.out 2
                      have hfz76_3 := blk_frozen BK125.out 3
                      have hfz76_4 := blk_frozen BK125.out 4
                      have hfz76_5 := blk_frozen BK125.out 5
                      have hfz76_6 := blk_frozen BK125.out 6
                      obtain ⟨Ao77, co77, eo77⟩ := Kd.R_slice HO_10.out
                      subst eo77
                      go_wp2_with (first | ((with_reducible refine gate_callee (f := 49) rfl ?_); refine goesL_ (some 82) rfl rfl Tryd.func49 (by kernel_rfl) rfl #[.agg #[.bool a0_0, .bool a0_1, .bool a0_2, .bool a0_3, .int .u32 a0_4, .int .u32 a0_5, .int .i64 a0_6], .slice Ao77 t143.length co77] rfl (by (try simp only [List.map_toArray, List.map_cons, List.map_nil]); first | done | rfl | (simp only [List.length_drop, List.length_take]; rfl)) ?_; (with_reducible refine (frame_Parse.calls kj24 a0_0 a0_1 a0_2 a0_3 a0_4 a0_5 a0_6 _ _ t143 t148 t149 t152 _ ?side1 ?side2 ?side3 ?side4 A50.out).mono ?_); (case side1 => repeat (first | exact (Kd.R_reads' HO_10.out).2.2 | (with_reducible refine Kd.C_alloc ?_ _) | (with_reducible refine Kd.C_drewN ?_ _) | (with_reducible refine Kd.C_drew ?_))); (case side2 => exact (Kd.R_reads' HO_10.out).2.1); (case side3 => repeat (first | exact (GF_below HGF.out HB.out) | (with_reducible refine GF_alloc ?_ _) | (with_reducible refine GF_drewN ?_ _) | (with_reducible refine GF_drew ?_))); (case side4 => repeat (first | exact (GH_below HGH.out HB.out) | (with_reducible refine GH_alloc ?_ _) | (with_reducible refine GH_drewN ?_ _) | (with_reducible refine GH_drew ?_))); rintro e w78 ⟨v150, rfl, ho0, hb⟩; refine ⟨_, rfl, ?_⟩; have n0_ := Aside0.mk (Kd.R_elder' (by (with_reducible repeat (first | apply Kd.R_alloc | apply Kd.R_drewN | apply Kd.R_drew)); exact HO_6.out) (Kd.R_base ho0) hb); have n1_ := Aside0.mk (Kd.R_elder' (by (with_reducible repeat (first | apply Kd.R_alloc | apply Kd.R_drewN | apply Kd.R_drew)); exact HO_8.out) (Kd.R_base ho0) hb); have n2_ := Aside0.mk (Kd.R_elder' (by (with_reducible repeat (first | apply Kd.R_alloc | apply Kd.R_drewN | apply Kd.R_drew)); exact HO_10.out) (Kd.R_base ho0) hb); have n3_ := Aside0.mk (Kd.R_lower (Kd.R_new' (Kd.R_new' (Kd.R_new' ho0 (Kd.R_lt (by (with_reducible repeat (first | apply Kd.R_alloc | apply Kd.R_drewN | apply Kd.R_drew)); exact HO_6.out))) (Kd.R_lt (by (with_reducible repeat (first | apply Kd.R_alloc | apply Kd.R_drewN | apply Kd.R_drew)); exact HO_8.out))) (Kd.R_lt (by (with_reducible repeat (first | apply Kd.R_alloc | apply Kd.R_drewN | apply Kd.R_drew)); exact HO_10.out))) (below_size (by repeat (first | (with_reducible first | exact HB.out | apply below_alloc | apply pw_below_drewN | apply below_drew1 | refine below_set ?_ GE121.out | refine below_set ?_ GE125.out) | exact HB.out)))); have n4_ := Aside0.mk (blk_below (g := gb121) (o := .cells #[.bool a0_0, .bool a0_1, .bool a0_2, .bool a0_3, .int .u32 a0_4, .int .u32 a0_5, .int .i64 a0_6] 24 (0, 0)) (by (with_reducible repeat (first | refine blk_drewN ?_ _ | refine blk_drew ?_ | refine blk_alloc ?_ _)); exact BK121.out) hb); have n5_ := Aside0.mk (blk_below (g := gb125) (o := .cells #[.bool a0_0, .bool a0_1, .bool a0_2, .bool a0_3, .int .u32 a0_4, .int .u32 a0_5, .int .i64 a0_6] 26 (0, 0)) (by (with_reducible repeat (first | refine blk_drewN ?_ _ | refine blk_drew ?_ | refine blk_alloc ?_ _)); exact BK125.out) hb); have n6_ := Aside0.mk (below_step (by repeat (first | (with_reducible first | exact HB.out | apply below_alloc | apply pw_below_drewN | apply below_drew1 | refine below_set ?_ GE121.out | refine below_set ?_ GE125.out) | exact HB.out)) hb); clear HO_6; clear HO_8; clear HO_10; clear BK121; clear BK125; clear HB; have HO_6 := n0_; have HO_8 := n1_; have HO_10 := n2_; have HO151 := n3_; have BK121 := n4_; have BK125 := n5_; have HB := n6_; clear n0_ n1_ n2_ n3_ n4_ n5_ n6_; (try clear hb); (try clear hb2); (try clear hk); (try clear hi); (try clear ho0)))
                      go_ret
                      exact ⟨by first | rfl | (simp [errW_none, errW_some] <;> rfl) | (simp [*, errW_none, errW_some] <;> rfl), by repeat (first | (with_reducible first | exact HB.out | apply below_alloc | apply pw_below_drewN | apply below_drew1 | refine below_set ?_ GE121.out | refine below_set ?_ GE125.out) | exact HB.out)⟩
            · rw [if_neg c23] at H
              have c23b0 : (t142 == 0) = false := beq_eq_false_iff_ne.mpr c23
              have c23b1 : (t142 != 0) = true := bne_iff_ne.mpr c23
              by_cases c79 : t138 = 0
              · rw [if_pos c79] at H
                have c79b0 : (t138 == 0) = true := beq_iff_eq.mpr c79
                have c79b1 : (t138 != 0) = false := bne_eq_false_iff_eq.mpr c79
                clear c79
                by_cases c80 : (t139.length : Int) = 0
                · rw [if_pos c80] at H
                  have c80b0 : ((t139.length : Int) == 0) = true := beq_iff_eq.mpr c80
                  have c80b1 : ((t139.length : Int) != 0) = false := bne_eq_false_iff_eq.mpr c80
                  clear c80
                  obtain rfl := Option.some.inj H
                  have hcz81_0 : wc.cell? ⟨gb121, 0, none⟩ = some (.bool a0_0) := (blk_cell BK121.out 0).trans rfl
                  have hcz81_1 : wc.cell? ⟨gb121, 1, none⟩ = some (.bool a0_1) := (blk_cell BK121.out 1).trans rfl
                  have hcz81_2 : wc.cell? ⟨gb121, 2, none⟩ = some (.bool a0_2) := (blk_cell BK121.out 2).trans rfl
                  have hcz81_3 : wc.cell? ⟨gb121, 3, none⟩ = some (.bool a0_3) := (blk_cell BK121.out 3).trans rfl
                  have hcz81_4 : wc.cell? ⟨gb121, 4, none⟩ = some (.int .u32 a0_4) := (blk_cell BK121.out 4).trans rfl
                  have hcz81_5 : wc.cell? ⟨gb121, 5, none⟩ = some (.int .u32 a0_5) := (blk_cell BK121.out 5).trans rfl
                  have hcz81_6 : wc.cell? ⟨gb121, 6, none⟩ = some (.int .i64 a0_6) := (blk_cell BK121.out 6).trans rfl
                  have hfz81_0 := blk_frozen BK121.out 0
                  have hfz81_1 := blk_frozen BK121.out 1
                  have hfz81_2 := blk_frozen BK121.out 2
                  have hfz81_3 := blk_frozen BK121.out 3
                  have hfz81_4 := blk_frozen BK121.out 4
                  have hfz81_5 := blk_frozen BK121.out 5
                  have hfz81_6 := blk_frozen BK121.out 6
                  try go_wp2_with (first | ((with_reducible refine gate_dst (N := 5) rfl ?_); (try (refine gate_guard (by rfl) ?_; dsimp only)); refine box_event ?hg (N := 5) ?hd (cs := #[.bool false, .bool false, .bool false, .bool false, .int .u32 0, .int .u32 0, .int .i64 0]) (t := 26) ?hr ?_; (case hd => rfl); (case hg => rfl); (case hr => first | (go_simp; done) | (go_simp; rfl)); intro gb125 hg w82 hbox hb; have n0_ := Aside0.mk (blk_below (g := gb121) (o := .cells #[.bool a0_0, .bool a0_1, .bool a0_2, .bool a0_3, .int .u32 a0_4, .int .u32 a0_5, .int .i64 a0_6] 24 (0, 0)) (by (with_reducible repeat (first | refine blk_drewN ?_ _ | refine blk_drew ?_ | refine blk_alloc ?_ _)); exact BK121.out) hb); have n1_ := Aside0.mk (below_step (by repeat (first | (with_reducible first | exact HB.out | apply below_alloc | apply pw_below_drewN | apply below_drew1 | refine below_set ?_ GE121.out) | exact HB.out)) hb); have n2_ := Aside0.mk (hbox); have n3_ := Aside0.mk ((by rw [hg]; exact (below_size (by repeat (first | (with_reducible first | exact HB.out | apply below_alloc | apply pw_below_drewN | apply below_drew1 | refine below_set ?_ GE121.out) | exact HB.out))) : w.heap.size ≤ gb125)); have n4_ := Aside0.mk ((by rw [hg]; exact (below_size (by repeat (first | (with_reducible first | exact HB.out | apply below_alloc | apply pw_below_drewN | apply below_drew1 | refine below_set ?_ GE121.out) | exact HB.out))) : w.heap.size ≤ gb125)); have n5_ := Aside0.mk ((by rw [hg]; exact Nat.ne_of_lt (blk_lt (g := gb121) (o := .cells #[.bool a0_0, .bool a0_1, .bool a0_2, .bool a0_3, .int .u32 a0_4, .int .u32 a0_5, .int .i64 a0_6] 24 (0, 0)) (by (with_reducible repeat (first | refine blk_drewN ?_ _ | refine blk_drew ?_ | refine blk_alloc ?_ _)); exact BK121.out)) : gb121 ≠ gb125)); have n6_ := Aside0.mk ((by rw [hg]; exact Nat.ne_of_gt (blk_lt (g := gb121) (o := .cells #[.bool a0_0, .bool a0_1, .bool a0_2, .bool a0_3, .int .u32 a0_4, .int .u32 a0_5, .int .i64 a0_6] 24 (0, 0)) (by (with_reducible repeat (first | refine blk_drewN ?_ _ | refine blk_drew ?_ | refine blk_alloc ?_ _)); exact BK121.out)) : gb125 ≠ gb121)); clear BK121; clear HB; have BK121 := n0_; have HB := n1_; have BK125 := n2_; have GW125 := n3_; have GE125 := n4_; have NB121_125 := n5_; have NB125_121 := n6_; clear n0_ n1_ n2_ n3_ n4_ n5_ n6_; clear hb hbox hg; have hnb83 := NB125_121.out; have hnc83 := NB121_125.out; have hcz84_0 : w82.cell? ⟨gb125, 0, none⟩ = some (.bool false) := (blk_cell BK125.out 0).trans rfl; have hcz84_1 : w82.cell? ⟨gb125, 1, none⟩ = some (.bool false) := (blk_cell BK125.out 1).trans rfl; have hcz84_2 : w82.cell? ⟨gb125, 2, none⟩ = some (.bool false) := (blk_cell BK125.out 2).trans rfl; have hcz84_3 : w82.cell? ⟨gb125, 3, none⟩ = some (.bool false) := (blk_cell BK125.out 3).trans rfl; have hcz84_4 : w82.cell? ⟨gb125, 4, none⟩ = some (.int .u32 0) := (blk_cell BK125.out 4).trans rfl; have hcz84_5 : w82.cell? ⟨gb125, 5, none⟩ = some (.int .u32 0) := (blk_cell BK125.out 5).trans rfl; have hcz84_6 : w82.cell? ⟨gb125, 6, none⟩ = some (.int .i64 0) := (blk_cell BK125.out 6).trans rfl; have hfz84_0 := blk_frozen BK125.out 0; have hfz84_1 := blk_frozen BK125.out 1; have hfz84_2 := blk_frozen BK125.out 2; have hfz84_3 := blk_frozen BK125.out 3; have hfz84_4 := blk_frozen BK125.out 4; have hfz84_5 := blk_frozen BK125.out 5; have hfz84_6 := blk_frozen BK125.out 6))
                  have n0_ : Aside0 ((((((((w82.setCell ⟨gb125, 0, none⟩ (.bool a0_0)).setCell ⟨gb125, 1, none⟩ (.bool a0_1)).setCell ⟨gb125, 2, none⟩ (.bool a0_2)).setCell ⟨gb125, 3, none⟩ (.bool a0_3)).setCell ⟨gb125, 4, none⟩ (.int .u32 a0_4)).setCell ⟨gb125, 5, none⟩ (.int .u32 a0_5)).setCell ⟨gb125, 6, none⟩ (.int .i64 a0_6)).heap[gb121]? = some (.cells #[.bool a0_0, .bool a0_1, .bool a0_2, .bool a0_3, .int .u32 a0_4, .int .u32 a0_5, .int .i64 a0_6] 24 (0, 0))) := ⟨by (with_reducible repeat (first | refine blk_drewN ?_ _ | refine blk_drew ?_ | refine blk_alloc ?_ _)); refine blk_far ?_ NB121_125.out _; (with_reducible repeat (first | refine blk_drewN ?_ _ | refine blk_drew ?_ | refine blk_alloc ?_ _)); refine blk_far ?_ NB121_125.out _; (with_reducible repeat (first | refine blk_drewN ?_ _ | refine blk_drew ?_ | refine blk_alloc ?_ _)); refine blk_far ?_ NB121_125.out _; (with_reducible repeat (first | refine blk_drewN ?_ _ | refine blk_drew ?_ | refine blk_alloc ?_ _)); refine blk_far ?_ NB121_125.out _; (with_reducible repeat (first | refine blk_drewN ?_ _ | refine blk_drew ?_ | refine blk_alloc ?_ _)); refine blk_far ?_ NB121_125.out _; (with_reducible repeat (first | refine blk_drewN ?_ _ | refine blk_drew ?_ | refine blk_alloc ?_ _)); refine blk_far ?_ NB121_125.out _; (with_reducible repeat (first | refine blk_drewN ?_ _ | refine blk_drew ?_ | refine blk_alloc ?_ _)); refine blk_far ?_ NB121_125.out _; (with_reducible repeat (first | refine blk_drewN ?_ _ | refine blk_drew ?_ | refine blk_alloc ?_ _)); exact BK121.out⟩
                  have n1_ : Aside0 ((((((((w82.setCell ⟨gb125, 0, none⟩ (.bool a0_0)).setCell ⟨gb125, 1, none⟩ (.bool a0_1)).setCell ⟨gb125, 2, none⟩ (.bool a0_2)).setCell ⟨gb125, 3, none⟩ (.bool a0_3)).setCell ⟨gb125, 4, none⟩ (.int .u32 a0_4)).setCell ⟨gb125, 5, none⟩ (.int .u32 a0_5)).setCell ⟨gb125, 6, none⟩ (.int .i64 a0_6)).heap[gb125]? = some (.cells #[.bool a0_0, .bool a0_1, .bool a0_2, .bool a0_3, .int .u32 a0_4, .int .u32 a0_5, .int .i64 a0_6] 26 (0, 0))) := ⟨by (with_reducible repeat (first | refine blk_drewN ?_ _ | refine blk_drew ?_ | refine blk_alloc ?_ _)); refine blk_put (cs := #[.bool a0_0, .bool a0_1, .bool a0_2, .bool a0_3, .int .u32 a0_4, .int .u32 a0_5, .int .i64 0]) ?_ 6 _ rfl; (with_reducible repeat (first | refine blk_drewN ?_ _ | refine blk_drew ?_ | refine blk_alloc ?_ _)); refine blk_put (cs := #[.bool a0_0, .bool a0_1, .bool a0_2, .bool a0_3, .int .u32 a0_4, .int .u32 0, .int .i64 0]) ?_ 5 _ rfl; (with_reducible repeat (first | refine blk_drewN ?_ _ | refine blk_drew ?_ | refine blk_alloc ?_ _)); refine blk_put (cs := #[.bool a0_0, .bool a0_1, .bool a0_2, .bool a0_3, .int .u32 0, .int .u32 0, .int .i64 0]) ?_ 4 _ rfl; (with_reducible repeat (first | refine blk_drewN ?_ _ | refine blk_drew ?_ | refine blk_alloc ?_ _)); refine blk_put (cs := #[.bool a0_0, .bool a0_1, .bool a0_2, .bool false, .int .u32 0, .int .u32 0, .int .i64 0]) ?_ 3 _ rfl; (with_reducible repeat (first | refine blk_drewN ?_ _ | refine blk_drew ?_ | refine blk_alloc ?_ _)); refine blk_put (cs := #[.bool a0_0, .bool a0_1, .bool false, .bool false, .int .u32 0, .int .u32 0, .int .i64 0]) ?_ 2 _ rfl; (with_reducible repeat (first | refine blk_drewN ?_ _ | refine blk_drew ?_ | refine blk_alloc ?_ _)); refine blk_put (cs := #[.bool a0_0, .bool false, .bool false, .bool false, .int .u32 0, .int .u32 0, .int .i64 0]) ?_ 1 _ rfl; (with_reducible repeat (first | refine blk_drewN ?_ _ | refine blk_drew ?_ | refine blk_alloc ?_ _)); refine blk_put (cs := #[.bool false, .bool false, .bool false, .bool false, .int .u32 0, .int .u32 0, .int .i64 0]) ?_ 0 _ rfl; (with_reducible repeat (first | refine blk_drewN ?_ _ | refine blk_drew ?_ | refine blk_alloc ?_ _)); exact BK125.out⟩
                  have n2_ : Aside0 (Below w.heap.size w (((((((w82.setCell ⟨gb125, 0, none⟩ (.bool a0_0)).setCell ⟨gb125, 1, none⟩ (.bool a0_1)).setCell ⟨gb125, 2, none⟩ (.bool a0_2)).setCell ⟨gb125, 3, none⟩ (.bool a0_3)).setCell ⟨gb125, 4, none⟩ (.int .u32 a0_4)).setCell ⟨gb125, 5, none⟩ (.int .u32 a0_5)).setCell ⟨gb125, 6, none⟩ (.int .i64 a0_6))) := ⟨by repeat (first | (with_reducible first | exact HB.out | apply below_alloc | apply pw_below_drewN | apply below_drew1 | refine below_set ?_ GE121.out | refine below_set ?_ GE125.out) | exact HB.out)⟩
                  (try clear BK121)
                  (try clear BK125)
                  (try clear HB)
                  generalize (((((((w82.setCell ⟨gb125, 0, none⟩ (.bool a0_0)).setCell ⟨gb125, 1, none⟩ (.bool a0_1)).setCell ⟨gb125, 2, none⟩ (.bool a0_2)).setCell ⟨gb125, 3, none⟩ (.bool a0_3)).setCell ⟨gb125, 4, none⟩ (.int .u32 a0_4)).setCell ⟨gb125, 5, none⟩ (.int .u32 a0_5)).setCell ⟨gb125, 6, none⟩ (.int .i64 a0_6)) = w85 at n0_ n1_ n2_ ⊢
                  have BK121 := n0_
                  have BK125 := n1_
                  have HB := n2_
                  clear n0_ n1_ n2_
                  have n0_ := Aside0.mk (blk_drew BK121.out)
                  have n1_ := Aside0.mk (blk_drew BK125.out)
                  have n2_ := Aside0.mk (below_drew1 HB.out)
                  clear BK121
                  clear BK125
                  clear HB
                  have BK121 := n0_
                  have BK125 := n1_
                  have HB := n2_
                  clear n0_ n1_ n2_
                  refine start_ (n := 9) (S := fun w' => w'.cell? ⟨gb121, 0, none⟩ = some (.bool a0_0) ∧ w'.cell? ⟨gb121, 1, none⟩ = some (.bool a0_1) ∧ w'.cell? ⟨gb121, 2, none⟩ = some (.bool a0_2) ∧ w'.cell? ⟨gb121, 3, none⟩ = some (.bool a0_3) ∧ w'.cell? ⟨gb121, 4, none⟩ = some (.int .u32 a0_4) ∧ w'.cell? ⟨gb121, 5, none⟩ = some (.int .u32 a0_5) ∧ w'.cell? ⟨gb121, 6, none⟩ = some (.int .i64 a0_6)) (ds := []) #[false, false, false, false, false, false, false, false, false] (by kernel_rfl) rfl rfl ⟨(blk_cell BK121.out 0).trans rfl, (blk_cell BK121.out 1).trans rfl, (blk_cell BK121.out 2).trans rfl, (blk_cell BK121.out 3).trans rfl, (blk_cell BK121.out 4).trans rfl, (blk_cell BK121.out 5).trans rfl, (blk_cell BK121.out 6).trans rfl⟩ (fun hHeld => ?_); refine with_tabW marlinelaw11_FrameParts.tab4 marlinelaw11_FrameParts.bits4 (fun HT_ HW_ => ?_)
                  generalize w85.drew = w86 at BK121 BK125 HB hHeld ⊢
                  refine pure_ (i := 1) (N := some 30) (v := ?_) (a' := ?_) #[false, true, false, false, false, false, false, false, false] rfl rfl (any_of HT_.out (by kernel_rfl)) (fun _ _ _ h => h) (Or.inl ⟨by rfl, ?_⟩) ?_ ?_
                  rotate_left
                  · intro w'
                    go_simp
                    with_reducible rfl
                  rotate_left
                  · simp only [Act.put, List.setIfInBounds_toArray, List.set_cons_zero, List.set_cons_succ, i64_w, i32_w]
                    rfl
                  refine pure_ (i := 3) (N := some 32) (v := ?_) (a' := ?_) #[false, true, false, true, false, false, false, false, false] rfl rfl (any_of HT_.out (by kernel_rfl)) (fun _ _ _ h => h) (Or.inl ⟨by rfl, ?_⟩) ?_ ?_
                  rotate_left
                  · intro w'
                    go_simp
                    with_reducible rfl
                  rotate_left
                  · simp only [Act.put, List.setIfInBounds_toArray, List.set_cons_zero, List.set_cons_succ, i64_w, i32_w]
                    rfl
                  refine pure_ (i := 5) (N := some 34) (v := ?_) (a' := ?_) #[false, true, false, true, false, true, false, false, false] rfl rfl (any_of HT_.out (by kernel_rfl)) (fun _ _ _ h => h) (Or.inl ⟨by rfl, ?_⟩) ?_ ?_
                  rotate_left
                  · intro w'
                    go_simp
                    with_reducible rfl
                  rotate_left
                  · simp only [Act.put, List.setIfInBounds_toArray, List.set_cons_zero, List.set_cons_succ, i64_w, i32_w]
                    rfl
                  refine take_ (i := 4) (N := some 33) (v := ?_) (a' := ?_) #[false, true, false, true, true, true, false, false, false] rfl rfl (take_ofW HT_.out HW_.out (by kernel_rfl)) (fun _ _ _ h => h) (Or.inl ⟨by rfl, ?_⟩) hHeld ?_ ?_
                  rotate_left
                  · rintro w' ⟨s0, s1, s2, s3, s4, s5, s6⟩
                    go_simp
                    with_reducible rfl
                  rotate_left
                  · simp only [Act.put, List.setIfInBounds_toArray, List.set_cons_zero, List.set_cons_succ, i64_w, i32_w]
                    rfl
                  refine one_ (i := 0) (N := some 29) #[true, true, false, true, true, true, false, false, false] rfl rfl (one_of HT_.out (by kernel_rfl)) (by decide) (fun K hK => ?_)
                  refine Kd.R_lit_step (Kd.int .u8) _ 5 ?hg (N := 29) ?hd (xs := ([] : List Int)) (inner := []) (ok := fun _ => True) (okp := fun _ => True) ?hr ?hp (fun _ hk => hk) trivial (Below.refl _ _) (Nat.le_refl _) (by simp) ?_; (case hd => rfl); (case hg => rfl); (case hr => first | (go_simp; done) | (go_simp; rfl)); (case hp => exact (Reps.none _ _))
                  intro v127 w87 ho88 hb hg_ hnew_
                  clear hg_ hnew_
                  (first | rw [← Ny126.out] at ho88 | (simp only [Int.reduceToNat] at ho88; rw [← Ny126.out] at ho88))
                  have n0_ := Aside0.mk (Kd.R_lower ho88 (below_size (by repeat (first | (with_reducible first | exact HB.out | apply below_alloc | apply pw_below_drewN | apply below_drew1 | refine below_set ?_ GE121.out | refine below_set ?_ GE125.out) | exact HB.out))))
                  have n1_ := Aside0.mk (blk_below (g := gb121) (o := .cells #[.bool a0_0, .bool a0_1, .bool a0_2, .bool a0_3, .int .u32 a0_4, .int .u32 a0_5, .int .i64 a0_6] 24 (0, 0)) (by (with_reducible repeat (first | refine blk_drewN ?_ _ | refine blk_drew ?_ | refine blk_alloc ?_ _)); exact BK121.out) hb)
                  have n2_ := Aside0.mk (blk_below (g := gb125) (o := .cells #[.bool a0_0, .bool a0_1, .bool a0_2, .bool a0_3, .int .u32 a0_4, .int .u32 a0_5, .int .i64 a0_6] 26 (0, 0)) (by (with_reducible repeat (first | refine blk_drewN ?_ _ | refine blk_drew ?_ | refine blk_alloc ?_ _)); exact BK125.out) hb)
                  have n3_ := Aside0.mk (below_step (by repeat (first | (with_reducible first | exact HB.out | apply below_alloc | apply pw_below_drewN | apply below_drew1 | refine below_set ?_ GE121.out | refine below_set ?_ GE125.out) | exact HB.out)) hb)
                  clear BK121
                  clear BK125
                  clear HB
                  have HO128 := n0_
                  have BK121 := n1_
                  have BK125 := n2_
                  have HB := n3_
                  clear n0_ n1_ n2_ n3_
                  clear hb ho88
                  refine hK.out _ _ ⟨(blk_cell BK121.out 0).trans rfl, (blk_cell BK121.out 1).trans rfl, (blk_cell BK121.out 2).trans rfl, (blk_cell BK121.out 3).trans rfl, (blk_cell BK121.out 4).trans rfl, (blk_cell BK121.out 5).trans rfl, (blk_cell BK121.out 6).trans rfl⟩ (fun hHeld => ?_)
                  clear hK K
                  refine norm_ (a' := ?_) ?_ ?_
                  rotate_left
                  · show Act.put _ (some 29) _ = _
                    simp only [Act.put, List.setIfInBounds_toArray, List.set_cons_zero, List.set_cons_succ, i64_w, i32_w]
                    rfl
                  refine one_ (i := 2) (N := some 31) #[true, true, true, true, true, true, false, false, false] rfl rfl (one_of HT_.out (by kernel_rfl)) (by decide) (fun K hK => ?_)
                  refine Kd.R_append_rows_step (Kd.int .u8) (w0 := w) w.heap.size (by rfl) (.tmp 29) (.tmp 30) 35 5 (.int .u8 0) 1 rfl Tryd.underlying35 info5 rfl (by decide) (by omega) v127 y126 l1 _ _ _ (fun _ => True) (fun _ => False) rfl rfl ?aO ?aR (fun _ _ h => h) (fun _ h => h.elim) ?aF ?aB ?aS ?aL ?_
                  (case aR => repeat (first | exact (Kd.C_below HR1.out HB.out) | (with_reducible refine Kd.C_alloc ?_ _) | (with_reducible refine Kd.C_drewN ?_ _) | (with_reducible refine Kd.C_drew ?_)))
                  (case aB => exact (by repeat (first | (with_reducible first | exact HB.out | apply below_alloc | apply pw_below_drewN | apply below_drew1 | refine below_set ?_ GE121.out | refine below_set ?_ GE125.out) | exact HB.out)))
                  (case aF => exact (fun _ _ => trivial))
                  (case aO => exact (by (with_reducible repeat (first | apply Kd.R_alloc | apply Kd.R_drewN | apply Kd.R_drew)); exact HO128.out))
                  (case aS => exact (below_size (by repeat (first | (with_reducible first | exact HB.out | apply below_alloc | apply pw_below_drewN | apply below_drew1 | refine below_set ?_ GE121.out | refine below_set ?_ GE125.out) | exact HB.out))))
                  (case aL => have := LMc19.out; omega)
                  intro v130 w89 ho hb hg hat
                  rw [← Ny129.out] at ho
                  have n0_ := Aside0.mk (blk_grown (g := gb121) (o := .cells #[.bool a0_0, .bool a0_1, .bool a0_2, .bool a0_3, .int .u32 a0_4, .int .u32 a0_5, .int .i64 a0_6] 24 (0, 0)) (by (with_reducible repeat (first | refine blk_drewN ?_ _ | refine blk_drew ?_ | refine blk_alloc ?_ _)); exact BK121.out) hg (Kd.R_ne HO128.out BK121.out (by decide)))
                  have n1_ := Aside0.mk (blk_grown (g := gb125) (o := .cells #[.bool a0_0, .bool a0_1, .bool a0_2, .bool a0_3, .int .u32 a0_4, .int .u32 a0_5, .int .i64 a0_6] 26 (0, 0)) (by (with_reducible repeat (first | refine blk_drewN ?_ _ | refine blk_drew ?_ | refine blk_alloc ?_ _)); exact BK125.out) hg (Kd.R_ne HO128.out BK125.out (by decide)))
                  have n2_ := Aside0.mk (hb)
                  have n3_ := Aside0.mk (ho)
                  clear BK121
                  clear BK125
                  clear HB
                  clear HO128
                  have BK121 := n0_
                  have BK125 := n1_
                  have HB := n2_
                  have HO131 := n3_
                  clear n0_ n1_ n2_ n3_
                  clear ho hb hg hat
                  refine hK.out _ _ ⟨(blk_cell BK121.out 0).trans rfl, (blk_cell BK121.out 1).trans rfl, (blk_cell BK121.out 2).trans rfl, (blk_cell BK121.out 3).trans rfl, (blk_cell BK121.out 4).trans rfl, (blk_cell BK121.out 5).trans rfl, (blk_cell BK121.out 6).trans rfl⟩ (fun hHeld => ?_)
                  clear hK K
                  refine norm_ (a' := ?_) ?_ ?_
                  rotate_left
                  · show Act.put _ (some 31) _ = _
                    simp only [Act.put, List.setIfInBounds_toArray, List.set_cons_zero, List.set_cons_succ, i64_w, i32_w]
                    rfl
                  refine one_ (i := 6) (N := some 35) #[true, true, true, true, true, true, true, false, false] rfl rfl (one_of HT_.out (by kernel_rfl)) (by decide) (fun K hK => ?_)
                  refine goes_ Tryd.func40 (by kernel_rfl) rfl #[.bool a0_1, .slice A1 l1.length c1] (by rfl) rfl rfl (by (try simp only [List.map_toArray, List.map_cons, List.map_nil]); first | done | rfl | (simp only [List.length_drop, List.length_take]; rfl)) ?_
                  with_reducible refine (fcs_Trailer.calls kj2 a0_1 _ _ l1 t132 _ ?side1 ?side2 ?side3 A20.out).mono ?_
                  (case side1 => repeat (first | exact (Kd.C_below HR1.out HB.out) | (with_reducible refine Kd.C_alloc ?_ _) | (with_reducible refine Kd.C_drewN ?_ _) | (with_reducible refine Kd.C_drew ?_)))
                  (case side2 => exact HC1.out)
                  (case side3 => repeat (first | exact (GF_below HGF.out HB.out) | (with_reducible refine GF_alloc ?_ _) | (with_reducible refine GF_drewN ?_ _) | (with_reducible refine GF_drew ?_)))
                  rintro e w90 ⟨v133, rfl, ho0, hb⟩
                  refine ⟨_, rfl, ?_⟩
                  have n0_ := Aside0.mk (Kd.R_elder' (by (with_reducible repeat (first | apply Kd.R_alloc | apply Kd.R_drewN | apply Kd.R_drew)); exact HO131.out) (Kd.R_base ho0) hb)
                  have n1_ := Aside0.mk (Kd.R_lower (Kd.R_new' ho0 (Kd.R_lt (by (with_reducible repeat (first | apply Kd.R_alloc | apply Kd.R_drewN | apply Kd.R_drew)); exact HO131.out))) (below_size (by repeat (first | (with_reducible first | exact HB.out | apply below_alloc | apply pw_below_drewN | apply below_drew1 | refine below_set ?_ GE121.out | refine below_set ?_ GE125.out) | exact HB.out))))
                  have n2_ := Aside0.mk (blk_below (g := gb121) (o := .cells #[.bool a0_0, .bool a0_1, .bool a0_2, .bool a0_3, .int .u32 a0_4, .int .u32 a0_5, .int .i64 a0_6] 24 (0, 0)) (by (with_reducible repeat (first | refine blk_drewN ?_ _ | refine blk_drew ?_ | refine blk_alloc ?_ _)); exact BK121.out) hb)
                  have n3_ := Aside0.mk (blk_below (g := gb125) (o := .cells #[.bool a0_0, .bool a0_1, .bool a0_2, .bool a0_3, .int .u32 a0_4, .int .u32 a0_5, .int .i64 a0_6] 26 (0, 0)) (by (with_reducible repeat (first | refine blk_drewN ?_ _ | refine blk_drew ?_ | refine blk_alloc ?_ _)); exact BK125.out) hb)
                  have n4_ := Aside0.mk (below_step (by repeat (first | (with_reducible first | exact HB.out | apply below_alloc | apply pw_below_drewN | apply below_drew1 | refine below_set ?_ GE121.out | refine below_set ?_ GE125.out) | exact HB.out)) hb)
                  clear HO131
                  clear BK121
                  clear BK125
                  clear HB
                  have HO131 := n0_
                  have HO134 := n1_
                  have BK121 := n2_
                  have BK125 := n3_
                  have HB := n4_
                  clear n0_ n1_ n2_ n3_ n4_
                  (try clear hb)
                  (try clear hb2)
                  (try clear hk)
                  (try clear hi)
                  (try clear ho0)
                  obtain ⟨Ao92, co92, eo92⟩ := Kd.R_slice HO134.out
                  (first | subst eo92 | (injection eo92 with f1_ f2_ f3_; have f4_ := f1_.symm; have f5_ := f3_.symm; clear f1_ f2_ f3_; subst f4_; subst f5_))
                  refine hK.out _ _ ⟨(blk_cell BK121.out 0).trans rfl, (blk_cell BK121.out 1).trans rfl, (blk_cell BK121.out 2).trans rfl, (blk_cell BK121.out 3).trans rfl, (blk_cell BK121.out 4).trans rfl, (blk_cell BK121.out 5).trans rfl, (blk_cell BK121.out 6).trans rfl⟩ (fun hHeld => ?_)
                  clear hK K
                  refine norm_ (a' := ?_) ?_ ?_
                  rotate_left
                  · show Act.put _ (some 35) _ = _
                    simp only [Act.put, List.setIfInBounds_toArray, List.set_cons_zero, List.set_cons_succ, i64_w, i32_w]
                    rfl
                  refine one_ (i := 7) (N := some 36) #[true, true, true, true, true, true, true, true, false] rfl rfl (one_of HT_.out (by kernel_rfl)) (by decide) (fun K hK => ?_)
                  refine Kd.R_append_rows_step (Kd.int .u8) (w0 := w) w.heap.size (by rfl) (.tmp 31) (.tmp 35) 35 5 (.int .u8 0) 1 rfl Tryd.underlying35 info5 rfl (by decide) (by omega) v130 y129 t132 _ _ _ (fun k_ => some k_ ≠ (.slice Ao92 t132.length co92 : Value).ownBlock) (fun _ => False) rfl rfl ?aO ?aR (fun _ _ h => h) (fun _ h => h.elim) ?aF ?aB ?aS ?aL ?_
                  (case aR => repeat (first | exact (Kd.R_reads' HO134.out).2.2 | (with_reducible refine Kd.C_alloc ?_ _) | (with_reducible refine Kd.C_drewN ?_ _) | (with_reducible refine Kd.C_drew ?_)))
                  (case aB => exact (by repeat (first | (with_reducible first | exact HB.out | apply below_alloc | apply pw_below_drewN | apply below_drew1 | refine below_set ?_ GE121.out | refine below_set ?_ GE125.out) | exact HB.out)))
                  (case aF => exact (fun k_ hk => Kd.fresh' (Kd.R_lt (by (with_reducible repeat (first | apply Kd.R_alloc | apply Kd.R_drewN | apply Kd.R_drew)); exact HO134.out)) k_ hk))
                  (case aO => exact (by (with_reducible repeat (first | apply Kd.R_alloc | apply Kd.R_drewN | apply Kd.R_drew)); exact Kd.R_mono HO131.out (fun _ hk => hk.2)))
                  (case aS => exact (below_size (by repeat (first | (with_reducible first | exact HB.out | apply below_alloc | apply pw_below_drewN | apply below_drew1 | refine below_set ?_ GE121.out | refine below_set ?_ GE125.out) | exact HB.out))))
                  (case aL => have := LMc21.out; omega)
                  intro v136 w91 ho hb hg hat
                  rw [← Ny135.out] at ho
                  have n0_ := Aside0.mk (blk_grown (g := gb121) (o := .cells #[.bool a0_0, .bool a0_1, .bool a0_2, .bool a0_3, .int .u32 a0_4, .int .u32 a0_5, .int .i64 a0_6] 24 (0, 0)) (by (with_reducible repeat (first | refine blk_drewN ?_ _ | refine blk_drew ?_ | refine blk_alloc ?_ _)); exact BK121.out) hg (Kd.R_ne HO131.out BK121.out (by decide)))
                  have n1_ := Aside0.mk (blk_grown (g := gb125) (o := .cells #[.bool a0_0, .bool a0_1, .bool a0_2, .bool a0_3, .int .u32 a0_4, .int .u32 a0_5, .int .i64 a0_6] 26 (0, 0)) (by (with_reducible repeat (first | refine blk_drewN ?_ _ | refine blk_drew ?_ | refine blk_alloc ?_ _)); exact BK125.out) hg (Kd.R_ne HO131.out BK125.out (by decide)))
                  have n2_ := Aside0.mk (Kd.R_after (ok := (fun _ => True)) (by (with_reducible repeat (first | apply Kd.R_alloc | apply Kd.R_drewN | apply Kd.R_drew)); exact HO134.out) hg hat)
                  have n3_ := Aside0.mk (hb)
                  have n4_ := Aside0.mk (ho)
                  clear BK121
                  clear BK125
                  clear HO134
                  clear HB
                  clear HO131
                  have BK121 := n0_
                  have BK125 := n1_
                  have HO134 := n2_
                  have HB := n3_
                  have HO137 := n4_
                  clear n0_ n1_ n2_ n3_ n4_
                  clear ho hb hg hat
                  refine hK.out _ _ ⟨(blk_cell BK121.out 0).trans rfl, (blk_cell BK121.out 1).trans rfl, (blk_cell BK121.out 2).trans rfl, (blk_cell BK121.out 3).trans rfl, (blk_cell BK121.out 4).trans rfl, (blk_cell BK121.out 5).trans rfl, (blk_cell BK121.out 6).trans rfl⟩ (fun hHeld => ?_)
                  clear hK K
                  refine norm_ (a' := ?_) ?_ ?_
                  rotate_left
                  · show Act.put _ (some 36) _ = _
                    simp only [Act.put, List.setIfInBounds_toArray, List.set_cons_zero, List.set_cons_succ, i64_w, i32_w]
                    rfl
                  refine pure_ (i := 8) (N := some 6) (v := ?_) (a' := ?_) #[true, true, true, true, true, true, true, true, true] rfl rfl (any_of HT_.out (by kernel_rfl)) (fun _ _ _ h => h) (Or.inl ⟨by rfl, ?_⟩) ?_ ?_
                  rotate_left
                  · intro w'
                    go_simp
                    with_reducible rfl
                  rotate_left
                  · simp only [Act.put, List.setIfInBounds_toArray, List.set_cons_zero, List.set_cons_succ, i64_w, i32_w]
                    rfl
                  refine done_ (done_of HT_.out (by kernel_rfl)) ?_
                  have hcz93_0 : w91.cell? ⟨gb125, 0, none⟩ = some (.bool a0_0) := (blk_cell BK125.out 0).trans rfl
                  have hcz93_1 : w91.cell? ⟨gb125, 1, none⟩ = some (.bool a0_1) := (blk_cell BK125.out 1).trans rfl
                  have hcz93_2 : w91.cell? ⟨gb125, 2, none⟩ = some (.bool a0_2) := (blk_cell BK125.out 2).trans rfl
                  have hcz93_3 : w91.cell? ⟨gb125, 3, none⟩ = some (.bool a0_3) := (blk_cell BK125.out 3).trans rfl
                  have hcz93_4 : w91.cell? ⟨gb125, 4, none⟩ = some (.int .u32 a0_4) := (blk_cell BK125.out 4).trans rfl
                  have hcz93_5 : w91.cell? ⟨gb125, 5, none⟩ = some (.int .u32 a0_5) := (blk_cell BK125.out 5).trans rfl
                  have hcz93_6 : w91.cell? ⟨gb125, 6, none⟩ = some (.int .i64 a0_6) := (blk_cell BK125.out 6).trans rfl
                  have hfz93_0 := blk_frozen BK125.out 0
                  have hfz93_1 := blk_frozen BK125.out 1
                  have hfz93_2 := blk_frozen BK125.out 2
                  have hfz93_3 := blk_frozen BK125.out 3
                  have hfz93_4 := blk_frozen BK125.out 4
                  have hfz93_5 := blk_frozen BK125.out 5
                  have hfz93_6 := blk_frozen BK125.out 6
                  obtain ⟨Ao94, co94, eo94⟩ := Kd.R_slice HO137.out
                  subst eo94
                  try go_wp2_with (first | ((with_reducible refine gate_callee (f := 49) rfl ?_); refine goesL_ (some 40) rfl rfl Tryd.func49 (by kernel_rfl) rfl #[.agg #[.bool a0_0, .bool a0_1, .bool a0_2, .bool a0_3, .int .u32 a0_4, .int .u32 a0_5, .int .i64 a0_6], .slice Ao94 y135.length co94] rfl (by (try simp only [List.map_toArray, List.map_cons, List.map_nil]); first | done | rfl | (simp only [List.length_drop, List.length_take]; rfl)) ?_; (with_reducible refine (frame_Parse.calls kj2 a0_0 a0_1 a0_2 a0_3 a0_4 a0_5 a0_6 _ _ y135 t138 t139 t142 _ ?side1 ?side2 ?side3 ?side4 A22.out).mono ?_); (case side1 => repeat (first | exact (Kd.R_reads' HO137.out).2.2 | (with_reducible refine Kd.C_alloc ?_ _) | (with_reducible refine Kd.C_drewN ?_ _) | (with_reducible refine Kd.C_drew ?_))); (case side2 => exact (Kd.R_reads' HO137.out).2.1); (case side3 => repeat (first | exact (GF_below HGF.out HB.out) | (with_reducible refine GF_alloc ?_ _) | (with_reducible refine GF_drewN ?_ _) | (with_reducible refine GF_drew ?_))); (case side4 => repeat (first | exact (GH_below HGH.out HB.out) | (with_reducible refine GH_alloc ?_ _) | (with_reducible refine GH_drewN ?_ _) | (with_reducible refine GH_drew ?_))); rintro e w95 ⟨v140, rfl, ho0, hb⟩; refine ⟨_, rfl, ?_⟩; have n0_ := Aside0.mk (Kd.R_elder' (by (with_reducible repeat (first | apply Kd.R_alloc | apply Kd.R_drewN | apply Kd.R_drew)); exact HO134.out) (Kd.R_base ho0) hb); have n1_ := Aside0.mk (Kd.R_elder' (by (with_reducible repeat (first | apply Kd.R_alloc | apply Kd.R_drewN | apply Kd.R_drew)); exact HO137.out) (Kd.R_base ho0) hb); have n2_ := Aside0.mk (Kd.R_lower (Kd.R_new' (Kd.R_new' ho0 (Kd.R_lt (by (with_reducible repeat (first | apply Kd.R_alloc | apply Kd.R_drewN | apply Kd.R_drew)); exact HO134.out))) (Kd.R_lt (by (with_reducible repeat (first | apply Kd.R_alloc | apply Kd.R_drewN | apply Kd.R_drew)); exact HO137.out))) (below_size (by repeat (first | (with_reducible first | exact HB.out | apply below_alloc | apply pw_below_drewN | apply below_drew1 | refine below_set ?_ GE121.out | refine below_set ?_ GE125.out) | exact HB.out)))); have n3_ := Aside0.mk (blk_below (g := gb121) (o := .cells #[.bool a0_0, .bool a0_1, .bool a0_2, .bool a0_3, .int .u32 a0_4, .int .u32 a0_5, .int .i64 a0_6] 24 (0, 0)) (by (with_reducible repeat (first | refine blk_drewN ?_ _ | refine blk_drew ?_ | refine blk_alloc ?_ _)); exact BK121.out) hb); have n4_ := Aside0.mk (blk_below (g := gb125) (o := .cells #[.bool a0_0, .bool a0_1, .bool a0_2, .bool a0_3, .int .u32 a0_4, .int .u32 a0_5, .int .i64 a0_6] 26 (0, 0)) (by (with_reducible repeat (first | refine blk_drewN ?_ _ | refine blk_drew ?_ | refine blk_alloc ?_ _)); exact BK125.out) hb); have n5_ := Aside0.mk (below_step (by repeat (first | (with_reducible first | exact HB.out | apply below_alloc | apply pw_below_drewN | apply below_drew1 | refine below_set ?_ GE121.out | refine below_set ?_ GE125.out) | exact HB.out)) hb); clear HO134; clear HO137; clear BK121; clear BK125; clear HB; have HO134 := n0_; have HO137 := n1_; have HO141 := n2_; have BK121 := n3_; have BK125 := n4_; have HB := n5_; clear n0_ n1_ n2_ n3_ n4_ n5_; (try clear hb); (try clear hb2); (try clear hk); (try clear hi); (try clear ho0); obtain ⟨Ao96, co96, eo96⟩ := Kd.R_slice HO141.out; subst eo96))
                  go_ret
                  exact ⟨by first | rfl | (simp [errW_none, errW_some] <;> rfl) | (simp [*, errW_none, errW_some] <;> rfl), by repeat (first | (with_reducible first | exact HB.out | apply below_alloc | apply pw_below_drewN | apply below_drew1 | refine below_set ?_ GE121.out | refine below_set ?_ GE125.out) | exact HB.out)⟩
                · rw [if_neg c80] at H
                  have c80b0 : ((t139.length : Int) == 0) = false := beq_eq_false_iff_ne.mpr c80
                  have c80b1 : ((t139.length : Int) != 0) = true := bne_iff_ne.mpr c80
                  have c80b2 : ¬ (t139 = []) := fun h_ => c80 (by rw [h_]; rfl)
                  obtain rfl := Option.some.inj H
                  have hcz97_0 : wc.cell? ⟨gb121, 0, none⟩ = some (.bool a0_0) := (blk_cell BK121.out 0).trans rfl
                  have hcz97_1 : wc.cell? ⟨gb121, 1, none⟩ = some (.bool a0_1) := (blk_cell BK121.out 1).trans rfl
                  have hcz97_2 : wc.cell? ⟨gb121, 2, none⟩ = some (.bool a0_2) := (blk_cell BK121.out 2).trans rfl
                  have hcz97_3 : wc.cell? ⟨gb121, 3, none⟩ = some (.bool a0_3) := (blk_cell BK121.out 3).trans rfl
                  have hcz97_4 : wc.cell? ⟨gb121, 4, none⟩ = some (.int .u32 a0_4) := (blk_cell BK121.out 4).trans rfl
                  have hcz97_5 : wc.cell? ⟨gb121, 5, none⟩ = some (.int .u32 a0_5) := (blk_cell BK121.out 5).trans rfl
                  have hcz97_6 : wc.cell? ⟨gb121, 6, none⟩ = some (.int .i64 a0_6) := (blk_cell BK121.out 6).trans rfl
                  have hfz97_0 := blk_frozen BK121.out 0
                  have hfz97_1 := blk_frozen BK121.out 1
                  have hfz97_2 := blk_frozen BK121.out 2
                  have hfz97_3 := blk_frozen BK121.out 3
                  have hfz97_4 := blk_frozen BK121.out 4
                  have hfz97_5 := blk_frozen BK121.out 5
                  have hfz97_6 := blk_frozen BK121.out 6
                  try go_wp2_with (first | ((with_reducible refine gate_dst (N := 5) rfl ?_); (try (refine gate_guard (by rfl) ?_; dsimp only)); refine box_event ?hg (N := 5) ?hd (cs := #[.bool false, .bool false, .bool false, .bool false, .int .u32 0, .int .u32 0, .int .i64 0]) (t := 26) ?hr ?_; (case hd => rfl); (case hg => rfl); (case hr => first | (go_simp; done) | (go_simp; rfl)); intro gb125 hg w98 hbox hb; have n0_ := Aside0.mk (blk_below (g := gb121) (o := .cells #[.bool a0_0, .bool a0_1, .bool a0_2, .bool a0_3, .int .u32 a0_4, .int .u32 a0_5, .int .i64 a0_6] 24 (0, 0)) (by (with_reducible repeat (first | refine blk_drewN ?_ _ | refine blk_drew ?_ | refine blk_alloc ?_ _)); exact BK121.out) hb); have n1_ := Aside0.mk (below_step (by repeat (first | (with_reducible first | exact HB.out | apply below_alloc | apply pw_below_drewN | apply below_drew1 | refine below_set ?_ GE121.out) | exact HB.out)) hb); have n2_ := Aside0.mk (hbox); have n3_ := Aside0.mk ((by rw [hg]; exact (below_size (by repeat (first | (with_reducible first | exact HB.out | apply below_alloc | apply pw_below_drewN | apply below_drew1 | refine below_set ?_ GE121.out) | exact HB.out))) : w.heap.size ≤ gb125)); have n4_ := Aside0.mk ((by rw [hg]; exact (below_size (by repeat (first | (with_reducible first | exact HB.out | apply below_alloc | apply pw_below_drewN | apply below_drew1 | refine below_set ?_ GE121.out) | exact HB.out))) : w.heap.size ≤ gb125)); have n5_ := Aside0.mk ((by rw [hg]; exact Nat.ne_of_lt (blk_lt (g := gb121) (o := .cells #[.bool a0_0, .bool a0_1, .bool a0_2, .bool a0_3, .int .u32 a0_4, .int .u32 a0_5, .int .i64 a0_6] 24 (0, 0)) (by (with_reducible repeat (first | refine blk_drewN ?_ _ | refine blk_drew ?_ | refine blk_alloc ?_ _)); exact BK121.out)) : gb121 ≠ gb125)); have n6_ := Aside0.mk ((by rw [hg]; exact Nat.ne_of_gt (blk_lt (g := gb121) (o := .cells #[.bool a0_0, .bool a0_1, .bool a0_2, .bool a0_3, .int .u32 a0_4, .int .u32 a0_5, .int .i64 a0_6] 24 (0, 0)) (by (with_reducible repeat (first | refine blk_drewN ?_ _ | refine blk_drew ?_ | refine blk_alloc ?_ _)); exact BK121.out)) : gb125 ≠ gb121)); clear BK121; clear HB; have BK121 := n0_; have HB := n1_; have BK125 := n2_; have GW125 := n3_; have GE125 := n4_; have NB121_125 := n5_; have NB125_121 := n6_; clear n0_ n1_ n2_ n3_ n4_ n5_ n6_; clear hb hbox hg; have hnb99 := NB125_121.out; have hnc99 := NB121_125.out; have hcz100_0 : w98.cell? ⟨gb125, 0, none⟩ = some (.bool false) := (blk_cell BK125.out 0).trans rfl; have hcz100_1 : w98.cell? ⟨gb125, 1, none⟩ = some (.bool false) := (blk_cell BK125.out 1).trans rfl; have hcz100_2 : w98.cell? ⟨gb125, 2, none⟩ = some (.bool false) := (blk_cell BK125.out 2).trans rfl; have hcz100_3 : w98.cell? ⟨gb125, 3, none⟩ = some (.bool false) := (blk_cell BK125.out 3).trans rfl; have hcz100_4 : w98.cell? ⟨gb125, 4, none⟩ = some (.int .u32 0) := (blk_cell BK125.out 4).trans rfl; have hcz100_5 : w98.cell? ⟨gb125, 5, none⟩ = some (.int .u32 0) := (blk_cell BK125.out 5).trans rfl; have hcz100_6 : w98.cell? ⟨gb125, 6, none⟩ = some (.int .i64 0) := (blk_cell BK125.out 6).trans rfl; have hfz100_0 := blk_frozen BK125.out 0; have hfz100_1 := blk_frozen BK125.out 1; have hfz100_2 := blk_frozen BK125.out 2; have hfz100_3 := blk_frozen BK125.out 3; have hfz100_4 := blk_frozen BK125.out 4; have hfz100_5 := blk_frozen BK125.out 5; have hfz100_6 := blk_frozen BK125.out 6))
                  have n0_ : Aside0 ((((((((w98.setCell ⟨gb125, 0, none⟩ (.bool a0_0)).setCell ⟨gb125, 1, none⟩ (.bool a0_1)).setCell ⟨gb125, 2, none⟩ (.bool a0_2)).setCell ⟨gb125, 3, none⟩ (.bool a0_3)).setCell ⟨gb125, 4, none⟩ (.int .u32 a0_4)).setCell ⟨gb125, 5, none⟩ (.int .u32 a0_5)).setCell ⟨gb125, 6, none⟩ (.int .i64 a0_6)).heap[gb121]? = some (.cells #[.bool a0_0, .bool a0_1, .bool a0_2, .bool a0_3, .int .u32 a0_4, .int .u32 a0_5, .int .i64 a0_6] 24 (0, 0))) := ⟨by (with_reducible repeat (first | refine blk_drewN ?_ _ | refine blk_drew ?_ | refine blk_alloc ?_ _)); refine blk_far ?_ NB121_125.out _; (with_reducible repeat (first | refine blk_drewN ?_ _ | refine blk_drew ?_ | refine blk_alloc ?_ _)); refine blk_far ?_ NB121_125.out _; (with_reducible repeat (first | refine blk_drewN ?_ _ | refine blk_drew ?_ | refine blk_alloc ?_ _)); refine blk_far ?_ NB121_125.out _; (with_reducible repeat (first | refine blk_drewN ?_ _ | refine blk_drew ?_ | refine blk_alloc ?_ _)); refine blk_far ?_ NB121_125.out _; (with_reducible repeat (first | refine blk_drewN ?_ _ | refine blk_drew ?_ | refine blk_alloc ?_ _)); refine blk_far ?_ NB121_125.out _; (with_reducible repeat (first | refine blk_drewN ?_ _ | refine blk_drew ?_ | refine blk_alloc ?_ _)); refine blk_far ?_ NB121_125.out _; (with_reducible repeat (first | refine blk_drewN ?_ _ | refine blk_drew ?_ | refine blk_alloc ?_ _)); refine blk_far ?_ NB121_125.out _; (with_reducible repeat (first | refine blk_drewN ?_ _ | refine blk_drew ?_ | refine blk_alloc ?_ _)); exact BK121.out⟩
                  have n1_ : Aside0 ((((((((w98.setCell ⟨gb125, 0, none⟩ (.bool a0_0)).setCell ⟨gb125, 1, none⟩ (.bool a0_1)).setCell ⟨gb125, 2, none⟩ (.bool a0_2)).setCell ⟨gb125, 3, none⟩ (.bool a0_3)).setCell ⟨gb125, 4, none⟩ (.int .u32 a0_4)).setCell ⟨gb125, 5, none⟩ (.int .u32 a0_5)).setCell ⟨gb125, 6, none⟩ (.int .i64 a0_6)).heap[gb125]? = some (.cells #[.bool a0_0, .bool a0_1, .bool a0_2, .bool a0_3, .int .u32 a0_4, .int .u32 a0_5, .int .i64 a0_6] 26 (0, 0))) := ⟨by (with_reducible repeat (first | refine blk_drewN ?_ _ | refine blk_drew ?_ | refine blk_alloc ?_ _)); refine blk_put (cs := #[.bool a0_0, .bool a0_1, .bool a0_2, .bool a0_3, .int .u32 a0_4, .int .u32 a0_5, .int .i64 0]) ?_ 6 _ rfl; (with_reducible repeat (first | refine blk_drewN ?_ _ | refine blk_drew ?_ | refine blk_alloc ?_ _)); refine blk_put (cs := #[.bool a0_0, .bool a0_1, .bool a0_2, .bool a0_3, .int .u32 a0_4, .int .u32 0, .int .i64 0]) ?_ 5 _ rfl; (with_reducible repeat (first | refine blk_drewN ?_ _ | refine blk_drew ?_ | refine blk_alloc ?_ _)); refine blk_put (cs := #[.bool a0_0, .bool a0_1, .bool a0_2, .bool a0_3, .int .u32 0, .int .u32 0, .int .i64 0]) ?_ 4 _ rfl; (with_reducible repeat (first | refine blk_drewN ?_ _ | refine blk_drew ?_ | refine blk_alloc ?_ _)); refine blk_put (cs := #[.bool a0_0, .bool a0_1, .bool a0_2, .bool false, .int .u32 0, .int .u32 0, .int .i64 0]) ?_ 3 _ rfl; (with_reducible repeat (first | refine blk_drewN ?_ _ | refine blk_drew ?_ | refine blk_alloc ?_ _)); refine blk_put (cs := #[.bool a0_0, .bool a0_1, .bool false, .bool false, .int .u32 0, .int .u32 0, .int .i64 0]) ?_ 2 _ rfl; (with_reducible repeat (first | refine blk_drewN ?_ _ | refine blk_drew ?_ | refine blk_alloc ?_ _)); refine blk_put (cs := #[.bool a0_0, .bool false, .bool false, .bool false, .int .u32 0, .int .u32 0, .int .i64 0]) ?_ 1 _ rfl; (with_reducible repeat (first | refine blk_drewN ?_ _ | refine blk_drew ?_ | refine blk_alloc ?_ _)); refine blk_put (cs := #[.bool false, .bool false, .bool false, .bool false, .int .u32 0, .int .u32 0, .int .i64 0]) ?_ 0 _ rfl; (with_reducible repeat (first | refine blk_drewN ?_ _ | refine blk_drew ?_ | refine blk_alloc ?_ _)); exact BK125.out⟩
                  have n2_ : Aside0 (Below w.heap.size w (((((((w98.setCell ⟨gb125, 0, none⟩ (.bool a0_0)).setCell ⟨gb125, 1, none⟩ (.bool a0_1)).setCell ⟨gb125, 2, none⟩ (.bool a0_2)).setCell ⟨gb125, 3, none⟩ (.bool a0_3)).setCell ⟨gb125, 4, none⟩ (.int .u32 a0_4)).setCell ⟨gb125, 5, none⟩ (.int .u32 a0_5)).setCell ⟨gb125, 6, none⟩ (.int .i64 a0_6))) := ⟨by repeat (first | (with_reducible first | exact HB.out | apply below_alloc | apply pw_below_drewN | apply below_drew1 | refine below_set ?_ GE121.out | refine below_set ?_ GE125.out) | exact HB.out)⟩
                  (try clear BK121)
                  (try clear BK125)
                  (try clear HB)
                  generalize (((((((w98.setCell ⟨gb125, 0, none⟩ (.bool a0_0)).setCell ⟨gb125, 1, none⟩ (.bool a0_1)).setCell ⟨gb125, 2, none⟩ (.bool a0_2)).setCell ⟨gb125, 3, none⟩ (.bool a0_3)).setCell ⟨gb125, 4, none⟩ (.int .u32 a0_4)).setCell ⟨gb125, 5, none⟩ (.int .u32 a0_5)).setCell ⟨gb125, 6, none⟩ (.int .i64 a0_6)) = w101 at n0_ n1_ n2_ ⊢
                  have BK121 := n0_
                  have BK125 := n1_
                  have HB := n2_
                  clear n0_ n1_ n2_
                  have n0_ := Aside0.mk (blk_drew BK121.out)
                  have n1_ := Aside0.mk (blk_drew BK125.out)
                  have n2_ := Aside0.mk (below_drew1 HB.out)
                  clear BK121
                  clear BK125
                  clear HB
                  have BK121 := n0_
                  have BK125 := n1_
                  have HB := n2_
                  clear n0_ n1_ n2_
                  refine start_ (n := 9) (S := fun w' => w'.cell? ⟨gb121, 0, none⟩ = some (.bool a0_0) ∧ w'.cell? ⟨gb121, 1, none⟩ = some (.bool a0_1) ∧ w'.cell? ⟨gb121, 2, none⟩ = some (.bool a0_2) ∧ w'.cell? ⟨gb121, 3, none⟩ = some (.bool a0_3) ∧ w'.cell? ⟨gb121, 4, none⟩ = some (.int .u32 a0_4) ∧ w'.cell? ⟨gb121, 5, none⟩ = some (.int .u32 a0_5) ∧ w'.cell? ⟨gb121, 6, none⟩ = some (.int .i64 a0_6)) (ds := []) #[false, false, false, false, false, false, false, false, false] (by kernel_rfl) rfl rfl ⟨(blk_cell BK121.out 0).trans rfl, (blk_cell BK121.out 1).trans rfl, (blk_cell BK121.out 2).trans rfl, (blk_cell BK121.out 3).trans rfl, (blk_cell BK121.out 4).trans rfl, (blk_cell BK121.out 5).trans rfl, (blk_cell BK121.out 6).trans rfl⟩ (fun hHeld => ?_); refine with_tabW marlinelaw11_FrameParts.tab4 marlinelaw11_FrameParts.bits4 (fun HT_ HW_ => ?_)
                  generalize w101.drew = w102 at BK121 BK125 HB hHeld ⊢
                  refine pure_ (i := 1) (N := some 30) (v := ?_) (a' := ?_) #[false, true, false, false, false, false, false, false, false] rfl rfl (any_of HT_.out (by kernel_rfl)) (fun _ _ _ h => h) (Or.inl ⟨by rfl, ?_⟩) ?_ ?_
                  rotate_left
                  · intro w'
                    go_simp
                    with_reducible rfl
                  rotate_left
                  · simp only [Act.put, List.setIfInBounds_toArray, List.set_cons_zero, List.set_cons_succ, i64_w, i32_w]
                    rfl
                  refine pure_ (i := 3) (N := some 32) (v := ?_) (a' := ?_) #[false, true, false, true, false, false, false, false, false] rfl rfl (any_of HT_.out (by kernel_rfl)) (fun _ _ _ h => h) (Or.inl ⟨by rfl, ?_⟩) ?_ ?_
                  rotate_left
                  · intro w'
                    go_simp
                    with_reducible rfl
                  rotate_left
                  · simp only [Act.put, List.setIfInBounds_toArray, List.set_cons_zero, List.set_cons_succ, i64_w, i32_w]
                    rfl
                  refine pure_ (i := 5) (N := some 34) (v := ?_) (a' := ?_) #[false, true, false, true, false, true, false, false, false] rfl rfl (any_of HT_.out (by kernel_rfl)) (fun _ _ _ h => h) (Or.inl ⟨by rfl, ?_⟩) ?_ ?_
                  rotate_left
                  · intro w'
                    go_simp
                    with_reducible rfl
                  rotate_left
                  · simp only [Act.put, List.setIfInBounds_toArray, List.set_cons_zero, List.set_cons_succ, i64_w, i32_w]
                    rfl
                  refine take_ (i := 4) (N := some 33) (v := ?_) (a' := ?_) #[false, true, false, true, true, true, false, false, false] rfl rfl (take_ofW HT_.out HW_.out (by kernel_rfl)) (fun _ _ _ h => h) (Or.inl ⟨by rfl, ?_⟩) hHeld ?_ ?_
                  rotate_left
                  · rintro w' ⟨s0, s1, s2, s3, s4, s5, s6⟩
                    go_simp
                    with_reducible rfl
                  rotate_left
                  · simp only [Act.put, List.setIfInBounds_toArray, List.set_cons_zero, List.set_cons_succ, i64_w, i32_w]
                    rfl
                  refine one_ (i := 0) (N := some 29) #[true, true, false, true, true, true, false, false, false] rfl rfl (one_of HT_.out (by kernel_rfl)) (by decide) (fun K hK => ?_)
                  refine Kd.R_lit_step (Kd.int .u8) _ 5 ?hg (N := 29) ?hd (xs := ([] : List Int)) (inner := []) (ok := fun _ => True) (okp := fun _ => True) ?hr ?hp (fun _ hk => hk) trivial (Below.refl _ _) (Nat.le_refl _) (by simp) ?_; (case hd => rfl); (case hg => rfl); (case hr => first | (go_simp; done) | (go_simp; rfl)); (case hp => exact (Reps.none _ _))
                  intro v127 w103 ho104 hb hg_ hnew_
                  clear hg_ hnew_
                  (first | rw [← Ny126.out] at ho104 | (simp only [Int.reduceToNat] at ho104; rw [← Ny126.out] at ho104))
                  have n0_ := Aside0.mk (Kd.R_lower ho104 (below_size (by repeat (first | (with_reducible first | exact HB.out | apply below_alloc | apply pw_below_drewN | apply below_drew1 | refine below_set ?_ GE121.out | refine below_set ?_ GE125.out) | exact HB.out))))
                  have n1_ := Aside0.mk (blk_below (g := gb121) (o := .cells #[.bool a0_0, .bool a0_1, .bool a0_2, .bool a0_3, .int .u32 a0_4, .int .u32 a0_5, .int .i64 a0_6] 24 (0, 0)) (by (with_reducible repeat (first | refine blk_drewN ?_ _ | refine blk_drew ?_ | refine blk_alloc ?_ _)); exact BK121.out) hb)
                  have n2_ := Aside0.mk (blk_below (g := gb125) (o := .cells #[.bool a0_0, .bool a0_1, .bool a0_2, .bool a0_3, .int .u32 a0_4, .int .u32 a0_5, .int .i64 a0_6] 26 (0, 0)) (by (with_reducible repeat (first | refine blk_drewN ?_ _ | refine blk_drew ?_ | refine blk_alloc ?_ _)); exact BK125.out) hb)
                  have n3_ := Aside0.mk (below_step (by repeat (first | (with_reducible first | exact HB.out | apply below_alloc | apply pw_below_drewN | apply below_drew1 | refine below_set ?_ GE121.out | refine below_set ?_ GE125.out) | exact HB.out)) hb)
                  clear BK121
                  clear BK125
                  clear HB
                  have HO128 := n0_
                  have BK121 := n1_
                  have BK125 := n2_
                  have HB := n3_
                  clear n0_ n1_ n2_ n3_
                  clear hb ho104
                  refine hK.out _ _ ⟨(blk_cell BK121.out 0).trans rfl, (blk_cell BK121.out 1).trans rfl, (blk_cell BK121.out 2).trans rfl, (blk_cell BK121.out 3).trans rfl, (blk_cell BK121.out 4).trans rfl, (blk_cell BK121.out 5).trans rfl, (blk_cell BK121.out 6).trans rfl⟩ (fun hHeld => ?_)
                  clear hK K
                  refine norm_ (a' := ?_) ?_ ?_
                  rotate_left
                  · show Act.put _ (some 29) _ = _
                    simp only [Act.put, List.setIfInBounds_toArray, List.set_cons_zero, List.set_cons_succ, i64_w, i32_w]
                    rfl
                  refine one_ (i := 2) (N := some 31) #[true, true, true, true, true, true, false, false, false] rfl rfl (one_of HT_.out (by kernel_rfl)) (by decide) (fun K hK => ?_)
                  refine Kd.R_append_rows_step (Kd.int .u8) (w0 := w) w.heap.size (by rfl) (.tmp 29) (.tmp 30) 35 5 (.int .u8 0) 1 rfl Tryd.underlying35 info5 rfl (by decide) (by omega) v127 y126 l1 _ _ _ (fun _ => True) (fun _ => False) rfl rfl ?aO ?aR (fun _ _ h => h) (fun _ h => h.elim) ?aF ?aB ?aS ?aL ?_
                  (case aR => repeat (first | exact (Kd.C_below HR1.out HB.out) | (with_reducible refine Kd.C_alloc ?_ _) | (with_reducible refine Kd.C_drewN ?_ _) | (with_reducible refine Kd.C_drew ?_)))
                  (case aB => exact (by repeat (first | (with_reducible first | exact HB.out | apply below_alloc | apply pw_below_drewN | apply below_drew1 | refine below_set ?_ GE121.out | refine below_set ?_ GE125.out) | exact HB.out)))
                  (case aF => exact (fun _ _ => trivial))
                  (case aO => exact (by (with_reducible repeat (first | apply Kd.R_alloc | apply Kd.R_drewN | apply Kd.R_drew)); exact HO128.out))
                  (case aS => exact (below_size (by repeat (first | (with_reducible first | exact HB.out | apply below_alloc | apply pw_below_drewN | apply below_drew1 | refine below_set ?_ GE121.out | refine below_set ?_ GE125.out) | exact HB.out))))
                  (case aL => have := LMc19.out; omega)
                  intro v130 w105 ho hb hg hat
                  rw [← Ny129.out] at ho
                  have n0_ := Aside0.mk (blk_grown (g := gb121) (o := .cells #[.bool a0_0, .bool a0_1, .bool a0_2, .bool a0_3, .int .u32 a0_4, .int .u32 a0_5, .int .i64 a0_6] 24 (0, 0)) (by (with_reducible repeat (first | refine blk_drewN ?_ _ | refine blk_drew ?_ | refine blk_alloc ?_ _)); exact BK121.out) hg (Kd.R_ne HO128.out BK121.out (by decide)))
                  have n1_ := Aside0.mk (blk_grown (g := gb125) (o := .cells #[.bool a0_0, .bool a0_1, .bool a0_2, .bool a0_3, .int .u32 a0_4, .int .u32 a0_5, .int .i64 a0_6] 26 (0, 0)) (by (with_reducible repeat (first | refine blk_drewN ?_ _ | refine blk_drew ?_ | refine blk_alloc ?_ _)); exact BK125.out) hg (Kd.R_ne HO128.out BK125.out (by decide)))
                  have n2_ := Aside0.mk (hb)
                  have n3_ := Aside0.mk (ho)
                  clear BK121
                  clear BK125
                  clear HB
                  clear HO128
                  have BK121 := n0_
                  have BK125 := n1_
                  have HB := n2_
                  have HO131 := n3_
                  clear n0_ n1_ n2_ n3_
                  clear ho hb hg hat
                  refine hK.out _ _ ⟨(blk_cell BK121.out 0).trans rfl, (blk_cell BK121.out 1).trans rfl, (blk_cell BK121.out 2).trans rfl, (blk_cell BK121.out 3).trans rfl, (blk_cell BK121.out 4).trans rfl, (blk_cell BK121.out 5).trans rfl, (blk_cell BK121.out 6).trans rfl⟩ (fun hHeld => ?_)
                  clear hK K
                  refine norm_ (a' := ?_) ?_ ?_
                  rotate_left
                  · show Act.put _ (some 31) _ = _
                    simp only [Act.put, List.setIfInBounds_toArray, List.set_cons_zero, List.set_cons_succ, i64_w, i32_w]
                    rfl
                  refine one_ (i := 6) (N := some 35) #[true, true, true, true, true, true, true, false, false] rfl rfl (one_of HT_.out (by kernel_rfl)) (by decide) (fun K hK => ?_)
                  refine goes_ Tryd.func40 (by kernel_rfl) rfl #[.bool a0_1, .slice A1 l1.length c1] (by rfl) rfl rfl (by (try simp only [List.map_toArray, List.map_cons, List.map_nil]); first | done | rfl | (simp only [List.length_drop, List.length_take]; rfl)) ?_
                  with_reducible refine (fcs_Trailer.calls kj2 a0_1 _ _ l1 t132 _ ?side1 ?side2 ?side3 A20.out).mono ?_
                  (case side1 => repeat (first | exact (Kd.C_below HR1.out HB.out) | (with_reducible refine Kd.C_alloc ?_ _) | (with_reducible refine Kd.C_drewN ?_ _) | (with_reducible refine Kd.C_drew ?_)))
                  (case side2 => exact HC1.out)
                  (case side3 => repeat (first | exact (GF_below HGF.out HB.out) | (with_reducible refine GF_alloc ?_ _) | (with_reducible refine GF_drewN ?_ _) | (with_reducible refine GF_drew ?_)))
                  rintro e w106 ⟨v133, rfl, ho0, hb⟩
                  refine ⟨_, rfl, ?_⟩
                  have n0_ := Aside0.mk (Kd.R_elder' (by (with_reducible repeat (first | apply Kd.R_alloc | apply Kd.R_drewN | apply Kd.R_drew)); exact HO131.out) (Kd.R_base ho0) hb)
                  have n1_ := Aside0.mk (Kd.R_lower (Kd.R_new' ho0 (Kd.R_lt (by (with_reducible repeat (first | apply Kd.R_alloc | apply Kd.R_drewN | apply Kd.R_drew)); exact HO131.out))) (below_size (by repeat (first | (with_reducible first | exact HB.out | apply below_alloc | apply pw_below_drewN | apply below_drew1 | refine below_set ?_ GE121.out | refine below_set ?_ GE125.out) | exact HB.out))))
                  have n2_ := Aside0.mk (blk_below (g := gb121) (o := .cells #[.bool a0_0, .bool a0_1, .bool a0_2, .bool a0_3, .int .u32 a0_4, .int .u32 a0_5, .int .i64 a0_6] 24 (0, 0)) (by (with_reducible repeat (first | refine blk_drewN ?_ _ | refine blk_drew ?_ | refine blk_alloc ?_ _)); exact BK121.out) hb)
                  have n3_ := Aside0.mk (blk_below (g := gb125) (o := .cells #[.bool a0_0, .bool a0_1, .bool a0_2, .bool a0_3, .int .u32 a0_4, .int .u32 a0_5, .int .i64 a0_6] 26 (0, 0)) (by (with_reducible repeat (first | refine blk_drewN ?_ _ | refine blk_drew ?_ | refine blk_alloc ?_ _)); exact BK125.out) hb)
                  have n4_ := Aside0.mk (below_step (by repeat (first | (with_reducible first | exact HB.out | apply below_alloc | apply pw_below_drewN | apply below_drew1 | refine below_set ?_ GE121.out | refine below_set ?_ GE125.out) | exact HB.out)) hb)
                  clear HO131
                  clear BK121
                  clear BK125
                  clear HB
                  have HO131 := n0_
                  have HO134 := n1_
                  have BK121 := n2_
                  have BK125 := n3_
                  have HB := n4_
                  clear n0_ n1_ n2_ n3_ n4_
                  (try clear hb)
                  (try clear hb2)
                  (try clear hk)
                  (try clear hi)
                  (try clear ho0)
                  obtain ⟨Ao108, co108, eo108⟩ := Kd.R_slice HO134.out
                  (first | subst eo108 | (injection eo108 with f1_ f2_ f3_; have f4_ := f1_.symm; have f5_ := f3_.symm; clear f1_ f2_ f3_; subst f4_; subst f5_))
                  refine hK.out _ _ ⟨(blk_cell BK121.out 0).trans rfl, (blk_cell BK121.out 1).trans rfl, (blk_cell BK121.out 2).trans rfl, (blk_cell BK121.out 3).trans rfl, (blk_cell BK121.out 4).trans rfl, (blk_cell BK121.out 5).trans rfl, (blk_cell BK121.out 6).trans rfl⟩ (fun hHeld => ?_)
                  clear hK K
                  refine norm_ (a' := ?_) ?_ ?_
                  rotate_left
                  · show Act.put _ (some 35) _ = _
                    simp only [Act.put, List.setIfInBounds_toArray, List.set_cons_zero, List.set_cons_succ, i64_w, i32_w]
                    rfl
                  refine one_ (i := 7) (N := some 36) #[true, true, true, true, true, true, true, true, false] rfl rfl (one_of HT_.out (by kernel_rfl)) (by decide) (fun K hK => ?_)
                  refine Kd.R_append_rows_step (Kd.int .u8) (w0 := w) w.heap.size (by rfl) (.tmp 31) (.tmp 35) 35 5 (.int .u8 0) 1 rfl Tryd.underlying35 info5 rfl (by decide) (by omega) v130 y129 t132 _ _ _ (fun k_ => some k_ ≠ (.slice Ao108 t132.length co108 : Value).ownBlock) (fun _ => False) rfl rfl ?aO ?aR (fun _ _ h => h) (fun _ h => h.elim) ?aF ?aB ?aS ?aL ?_
                  (case aR => repeat (first | exact (Kd.R_reads' HO134.out).2.2 | (with_reducible refine Kd.C_alloc ?_ _) | (with_reducible refine Kd.C_drewN ?_ _) | (with_reducible refine Kd.C_drew ?_)))
                  (case aB => exact (by repeat (first | (with_reducible first | exact HB.out | apply below_alloc | apply pw_below_drewN | apply below_drew1 | refine below_set ?_ GE121.out | refine below_set ?_ GE125.out) | exact HB.out)))
                  (case aF => exact (fun k_ hk => Kd.fresh' (Kd.R_lt (by (with_reducible repeat (first | apply Kd.R_alloc | apply Kd.R_drewN | apply Kd.R_drew)); exact HO134.out)) k_ hk))
                  (case aO => exact (by (with_reducible repeat (first | apply Kd.R_alloc | apply Kd.R_drewN | apply Kd.R_drew)); exact Kd.R_mono HO131.out (fun _ hk => hk.2)))
                  (case aS => exact (below_size (by repeat (first | (with_reducible first | exact HB.out | apply below_alloc | apply pw_below_drewN | apply below_drew1 | refine below_set ?_ GE121.out | refine below_set ?_ GE125.out) | exact HB.out))))
                  (case aL => have := LMc21.out; omega)
                  intro v136 w107 ho hb hg hat
                  rw [← Ny135.out] at ho
                  have n0_ := Aside0.mk (blk_grown (g := gb121) (o := .cells #[.bool a0_0, .bool a0_1, .bool a0_2, .bool a0_3, .int .u32 a0_4, .int .u32 a0_5, .int .i64 a0_6] 24 (0, 0)) (by (with_reducible repeat (first | refine blk_drewN ?_ _ | refine blk_drew ?_ | refine blk_alloc ?_ _)); exact BK121.out) hg (Kd.R_ne HO131.out BK121.out (by decide)))
                  have n1_ := Aside0.mk (blk_grown (g := gb125) (o := .cells #[.bool a0_0, .bool a0_1, .bool a0_2, .bool a0_3, .int .u32 a0_4, .int .u32 a0_5, .int .i64 a0_6] 26 (0, 0)) (by (with_reducible repeat (first | refine blk_drewN ?_ _ | refine blk_drew ?_ | refine blk_alloc ?_ _)); exact BK125.out) hg (Kd.R_ne HO131.out BK125.out (by decide)))
                  have n2_ := Aside0.mk (Kd.R_after (ok := (fun _ => True)) (by (with_reducible repeat (first | apply Kd.R_alloc | apply Kd.R_drewN | apply Kd.R_drew)); exact HO134.out) hg hat)
                  have n3_ := Aside0.mk (hb)
                  have n4_ := Aside0.mk (ho)
                  clear BK121
                  clear BK125
                  clear HO134
                  clear HB
                  clear HO131
                  have BK121 := n0_
                  have BK125 := n1_
                  have HO134 := n2_
                  have HB := n3_
                  have HO137 := n4_
                  clear n0_ n1_ n2_ n3_ n4_
                  clear ho hb hg hat
                  refine hK.out _ _ ⟨(blk_cell BK121.out 0).trans rfl, (blk_cell BK121.out 1).trans rfl, (blk_cell BK121.out 2).trans rfl, (blk_cell BK121.out 3).trans rfl, (blk_cell BK121.out 4).trans rfl, (blk_cell BK121.out 5).trans rfl, (blk_cell BK121.out 6).trans rfl⟩ (fun hHeld => ?_)
                  clear hK K
                  refine norm_ (a' := ?_) ?_ ?_
                  rotate_left
                  · show Act.put _ (some 36) _ = _
                    simp only [Act.put, List.setIfInBounds_toArray, List.set_cons_zero, List.set_cons_succ, i64_w, i32_w]
                    rfl
                  refine pure_ (i := 8) (N := some 6) (v := ?_) (a' := ?_) #[true, true, true, true, true, true, true, true, true] rfl rfl (any_of HT_.out (by kernel_rfl)) (fun _ _ _ h => h) (Or.inl ⟨by rfl, ?_⟩) ?_ ?_
                  rotate_left
                  · intro w'
                    go_simp
                    with_reducible rfl
                  rotate_left
                  · simp only [Act.put, List.setIfInBounds_toArray, List.set_cons_zero, List.set_cons_succ, i64_w, i32_w]
                    rfl
                  refine done_ (done_of HT_.out (by kernel_rfl)) ?_
                  have hcz109_0 : w107.cell? ⟨gb125, 0, none⟩ = some (.bool a0_0) := (blk_cell BK125.out 0).trans rfl
                  have hcz109_1 : w107.cell? ⟨gb125, 1, none⟩ = some (.bool a0_1) := (blk_cell BK125.out 1).trans rfl
                  have hcz109_2 : w107.cell? ⟨gb125, 2, none⟩ = some (.bool a0_2) := (blk_cell BK125.out 2).trans rfl
                  have hcz109_3 : w107.cell? ⟨gb125, 3, none⟩ = some (.bool a0_3) := (blk_cell BK125.out 3).trans rfl
                  have hcz109_4 : w107.cell? ⟨gb125, 4, none⟩ = some (.int .u32 a0_4) := (blk_cell BK125.out 4).trans rfl
                  have hcz109_5 : w107.cell? ⟨gb125, 5, none⟩ = some (.int .u32 a0_5) := (blk_cell BK125.out 5).trans rfl
                  have hcz109_6 : w107.cell? ⟨gb125, 6, none⟩ = some (.int .i64 a0_6) := (blk_cell BK125.out 6).trans rfl
                  have hfz109_0 := blk_frozen BK125.out 0
                  have hfz109_1 := blk_frozen BK125.out 1
                  have hfz109_2 := blk_frozen BK125.out 2
                  have hfz109_3 := blk_frozen BK125.out 3
                  have hfz109_4 := blk_frozen BK125.out 4
                  have hfz109_5 := blk_frozen BK125.out 5
                  have hfz109_6 := blk_frozen BK125.out 6
                  obtain ⟨Ao110, co110, eo110⟩ := Kd.R_slice HO137.out
                  subst eo110
                  try go_wp2_with (first | ((with_reducible refine gate_callee (f := 49) rfl ?_); refine goesL_ (some 40) rfl rfl Tryd.func49 (by kernel_rfl) rfl #[.agg #[.bool a0_0, .bool a0_1, .bool a0_2, .bool a0_3, .int .u32 a0_4, .int .u32 a0_5, .int .i64 a0_6], .slice Ao110 y135.length co110] rfl (by (try simp only [List.map_toArray, List.map_cons, List.map_nil]); first | done | rfl | (simp only [List.length_drop, List.length_take]; rfl)) ?_; (with_reducible refine (frame_Parse.calls kj2 a0_0 a0_1 a0_2 a0_3 a0_4 a0_5 a0_6 _ _ y135 t138 t139 t142 _ ?side1 ?side2 ?side3 ?side4 A22.out).mono ?_); (case side1 => repeat (first | exact (Kd.R_reads' HO137.out).2.2 | (with_reducible refine Kd.C_alloc ?_ _) | (with_reducible refine Kd.C_drewN ?_ _) | (with_reducible refine Kd.C_drew ?_))); (case side2 => exact (Kd.R_reads' HO137.out).2.1); (case side3 => repeat (first | exact (GF_below HGF.out HB.out) | (with_reducible refine GF_alloc ?_ _) | (with_reducible refine GF_drewN ?_ _) | (with_reducible refine GF_drew ?_))); (case side4 => repeat (first | exact (GH_below HGH.out HB.out) | (with_reducible refine GH_alloc ?_ _) | (with_reducible refine GH_drewN ?_ _) | (with_reducible refine GH_drew ?_))); rintro e w111 ⟨v140, rfl, ho0, hb⟩; refine ⟨_, rfl, ?_⟩; have n0_ := Aside0.mk (Kd.R_elder' (by (with_reducible repeat (first | apply Kd.R_alloc | apply Kd.R_drewN | apply Kd.R_drew)); exact HO134.out) (Kd.R_base ho0) hb); have n1_ := Aside0.mk (Kd.R_elder' (by (with_reducible repeat (first | apply Kd.R_alloc | apply Kd.R_drewN | apply Kd.R_drew)); exact HO137.out) (Kd.R_base ho0) hb); have n2_ := Aside0.mk (Kd.R_lower (Kd.R_new' (Kd.R_new' ho0 (Kd.R_lt (by (with_reducible repeat (first | apply Kd.R_alloc | apply Kd.R_drewN | apply Kd.R_drew)); exact HO134.out))) (Kd.R_lt (by (with_reducible repeat (first | apply Kd.R_alloc | apply Kd.R_drewN | apply Kd.R_drew)); exact HO137.out))) (below_size (by repeat (first | (with_reducible first | exact HB.out | apply below_alloc | apply pw_below_drewN | apply below_drew1 | refine below_set ?_ GE121.out | refine below_set ?_ GE125.out) | exact HB.out)))); have n3_ := Aside0.mk (blk_below (g := gb121) (o := .cells #[.bool a0_0, .bool a0_1, .bool a0_2, .bool a0_3, .int .u32 a0_4, .int .u32 a0_5, .int .i64 a0_6] 24 (0, 0)) (by (with_reducible repeat (first | refine blk_drewN ?_ _ | refine blk_drew ?_ | refine blk_alloc ?_ _)); exact BK121.out) hb); have n4_ := Aside0.mk (blk_below (g := gb125) (o := .cells #[.bool a0_0, .bool a0_1, .bool a0_2, .bool a0_3, .int .u32 a0_4, .int .u32 a0_5, .int .i64 a0_6] 26 (0, 0)) (by (with_reducible repeat (first | refine blk_drewN ?_ _ | refine blk_drew ?_ | refine blk_alloc ?_ _)); exact BK125.out) hb); have n5_ := Aside0.mk (below_step (by repeat (first | (with_reducible first | exact HB.out | apply below_alloc | apply pw_below_drewN | apply below_drew1 | refine below_set ?_ GE121.out | refine below_set ?_ GE125.out) | exact HB.out)) hb); clear HO134; clear HO137; clear BK121; clear BK125; clear HB; have HO134 := n0_; have HO137 := n1_; have HO141 := n2_; have BK121 := n3_; have BK125 := n4_; have HB := n5_; clear n0_ n1_ n2_ n3_ n4_ n5_; (try clear hb); (try clear hb2); (try clear hk); (try clear hi); (try clear ho0); obtain ⟨Ao112, co112, eo112⟩ := Kd.R_slice HO141.out; subst eo112))
                  go_ret
                  exact ⟨by first | rfl | (simp [errW_none, errW_some] <;> rfl) | (simp [*, errW_none, errW_some] <;> rfl), by repeat (first | (with_reducible first | exact HB.out | apply below_alloc | apply pw_below_drewN | apply below_drew1 | refine below_set ?_ GE121.out | refine below_set ?_ GE125.out) | exact HB.out)⟩
              · rw [if_neg c79] at H
                have c79b0 : (t138 == 0) = false := beq_eq_false_iff_ne.mpr c79
                have c79b1 : (t138 != 0) = true := bne_iff_ne.mpr c79
                obtain rfl := Option.some.inj H
                have hcz113_0 : wc.cell? ⟨gb121, 0, none⟩ = some (.bool a0_0) := (blk_cell BK121.out 0).trans rfl
                have hcz113_1 : wc.cell? ⟨gb121, 1, none⟩ = some (.bool a0_1) := (blk_cell BK121.out 1).trans rfl
                have hcz113_2 : wc.cell? ⟨gb121, 2, none⟩ = some (.bool a0_2) := (blk_cell BK121.out 2).trans rfl
                have hcz113_3 : wc.cell? ⟨gb121, 3, none⟩ = some (.bool a0_3) := (blk_cell BK121.out 3).trans rfl
                have hcz113_4 : wc.cell? ⟨gb121, 4, none⟩ = some (.int .u32 a0_4) := (blk_cell BK121.out 4).trans rfl
                have hcz113_5 : wc.cell? ⟨gb121, 5, none⟩ = some (.int .u32 a0_5) := (blk_cell BK121.out 5).trans rfl
                have hcz113_6 : wc.cell? ⟨gb121, 6, none⟩ = some (.int .i64 a0_6) := (blk_cell BK121.out 6).trans rfl
                have hfz113_0 := blk_frozen BK121.out 0
                have hfz113_1 := blk_frozen BK121.out 1
                have hfz113_2 := blk_frozen BK121.out 2
                have hfz113_3 := blk_frozen BK121.out 3
                have hfz113_4 := blk_frozen BK121.out 4
                have hfz113_5 := blk_frozen BK121.out 5
                have hfz113_6 := blk_frozen BK121.out 6
                try go_wp2_with (first | ((with_reducible refine gate_dst (N := 5) rfl ?_); (try (refine gate_guard (by rfl) ?_; dsimp only)); refine box_event ?hg (N := 5) ?hd (cs := #[.bool false, .bool false, .bool false, .bool false, .int .u32 0, .int .u32 0, .int .i64 0]) (t := 26) ?hr ?_; (case hd => rfl); (case hg => rfl); (case hr => first | (go_simp; done) | (go_simp; rfl)); intro gb125 hg w114 hbox hb; have n0_ := Aside0.mk (blk_below (g := gb121) (o := .cells #[.bool a0_0, .bool a0_1, .bool a0_2, .bool a0_3, .int .u32 a0_4, .int .u32 a0_5, .int .i64 a0_6] 24 (0, 0)) (by (with_reducible repeat (first | refine blk_drewN ?_ _ | refine blk_drew ?_ | refine blk_alloc ?_ _)); exact BK121.out) hb); have n1_ := Aside0.mk (below_step (by repeat (first | (with_reducible first | exact HB.out | apply below_alloc | apply pw_below_drewN | apply below_drew1 | refine below_set ?_ GE121.out) | exact HB.out)) hb); have n2_ := Aside0.mk (hbox); have n3_ := Aside0.mk ((by rw [hg]; exact (below_size (by repeat (first | (with_reducible first | exact HB.out | apply below_alloc | apply pw_below_drewN | apply below_drew1 | refine below_set ?_ GE121.out) | exact HB.out))) : w.heap.size ≤ gb125)); have n4_ := Aside0.mk ((by rw [hg]; exact (below_size (by repeat (first | (with_reducible first | exact HB.out | apply below_alloc | apply pw_below_drewN | apply below_drew1 | refine below_set ?_ GE121.out) | exact HB.out))) : w.heap.size ≤ gb125)); have n5_ := Aside0.mk ((by rw [hg]; exact Nat.ne_of_lt (blk_lt (g := gb121) (o := .cells #[.bool a0_0, .bool a0_1, .bool a0_2, .bool a0_3, .int .u32 a0_4, .int .u32 a0_5, .int .i64 a0_6] 24 (0, 0)) (by (with_reducible repeat (first | refine blk_drewN ?_ _ | refine blk_drew ?_ | refine blk_alloc ?_ _)); exact BK121.out)) : gb121 ≠ gb125)); have n6_ := Aside0.mk ((by rw [hg]; exact Nat.ne_of_gt (blk_lt (g := gb121) (o := .cells #[.bool a0_0, .bool a0_1, .bool a0_2, .bool a0_3, .int .u32 a0_4, .int .u32 a0_5, .int .i64 a0_6] 24 (0, 0)) (by (with_reducible repeat (first | refine blk_drewN ?_ _ | refine blk_drew ?_ | refine blk_alloc ?_ _)); exact BK121.out)) : gb125 ≠ gb121)); clear BK121; clear HB; have BK121 := n0_; have HB := n1_; have BK125 := n2_; have GW125 := n3_; have GE125 := n4_; have NB121_125 := n5_; have NB125_121 := n6_; clear n0_ n1_ n2_ n3_ n4_ n5_ n6_; clear hb hbox hg; have hnb115 := NB125_121.out; have hnc115 := NB121_125.out; have hcz116_0 : w114.cell? ⟨gb125, 0, none⟩ = some (.bool false) := (blk_cell BK125.out 0).trans rfl; have hcz116_1 : w114.cell? ⟨gb125, 1, none⟩ = some (.bool false) := (blk_cell BK125.out 1).trans rfl; have hcz116_2 : w114.cell? ⟨gb125, 2, none⟩ = some (.bool false) := (blk_cell BK125.out 2).trans rfl; have hcz116_3 : w114.cell? ⟨gb125, 3, none⟩ = some (.bool false) := (blk_cell BK125.out 3).trans rfl; have hcz116_4 : w114.cell? ⟨gb125, 4, none⟩ = some (.int .u32 0) := (blk_cell BK125.out 4).trans rfl; have hcz116_5 : w114.cell? ⟨gb125, 5, none⟩ = some (.int .u32 0) := (blk_cell BK125.out 5).trans rfl; have hcz116_6 : w114.cell? ⟨gb125, 6, none⟩ = some (.int .i64 0) := (blk_cell BK125.out 6).trans rfl; have hfz116_0 := blk_frozen BK125.out 0; have hfz116_1 := blk_frozen BK125.out 1; have hfz116_2 := blk_frozen BK125.out 2; have hfz116_3 := blk_frozen BK125.out 3; have hfz116_4 := blk_frozen BK125.out 4; have hfz116_5 := blk_frozen BK125.out 5; have hfz116_6 := blk_frozen BK125.out 6))
                have n0_ : Aside0 ((((((((w114.setCell ⟨gb125, 0, none⟩ (.bool a0_0)).setCell ⟨gb125, 1, none⟩ (.bool a0_1)).setCell ⟨gb125, 2, none⟩ (.bool a0_2)).setCell ⟨gb125, 3, none⟩ (.bool a0_3)).setCell ⟨gb125, 4, none⟩ (.int .u32 a0_4)).setCell ⟨gb125, 5, none⟩ (.int .u32 a0_5)).setCell ⟨gb125, 6, none⟩ (.int .i64 a0_6)).heap[gb121]? = some (.cells #[.bool a0_0, .bool a0_1, .bool a0_2, .bool a0_3, .int .u32 a0_4, .int .u32 a0_5, .int .i64 a0_6] 24 (0, 0))) := ⟨by (with_reducible repeat (first | refine blk_drewN ?_ _ | refine blk_drew ?_ | refine blk_alloc ?_ _)); refine blk_far ?_ NB121_125.out _; (with_reducible repeat (first | refine blk_drewN ?_ _ | refine blk_drew ?_ | refine blk_alloc ?_ _)); refine blk_far ?_ NB121_125.out _; (with_reducible repeat (first | refine blk_drewN ?_ _ | refine blk_drew ?_ | refine blk_alloc ?_ _)); refine blk_far ?_ NB121_125.out _; (with_reducible repeat (first | refine blk_drewN ?_ _ | refine blk_drew ?_ | refine blk_alloc ?_ _)); refine blk_far ?_ NB121_125.out _; (with_reducible repeat (first | refine blk_drewN ?_ _ | refine blk_drew ?_ | refine blk_alloc ?_ _)); refine blk_far ?_ NB121_125.out _; (with_reducible repeat (first | refine blk_drewN ?_ _ | refine blk_drew ?_ | refine blk_alloc ?_ _)); refine blk_far ?_ NB121_125.out _; (with_reducible repeat (first | refine blk_drewN ?_ _ | refine blk_drew ?_ | refine blk_alloc ?_ _)); refine blk_far ?_ NB121_125.out _; (with_reducible repeat (first | refine blk_drewN ?_ _ | refine blk_drew ?_ | refine blk_alloc ?_ _)); exact BK121.out⟩
                have n1_ : Aside0 ((((((((w114.setCell ⟨gb125, 0, none⟩ (.bool a0_0)).setCell ⟨gb125, 1, none⟩ (.bool a0_1)).setCell ⟨gb125, 2, none⟩ (.bool a0_2)).setCell ⟨gb125, 3, none⟩ (.bool a0_3)).setCell ⟨gb125, 4, none⟩ (.int .u32 a0_4)).setCell ⟨gb125, 5, none⟩ (.int .u32 a0_5)).setCell ⟨gb125, 6, none⟩ (.int .i64 a0_6)).heap[gb125]? = some (.cells #[.bool a0_0, .bool a0_1, .bool a0_2, .bool a0_3, .int .u32 a0_4, .int .u32 a0_5, .int .i64 a0_6] 26 (0, 0))) := ⟨by (with_reducible repeat (first | refine blk_drewN ?_ _ | refine blk_drew ?_ | refine blk_alloc ?_ _)); refine blk_put (cs := #[.bool a0_0, .bool a0_1, .bool a0_2, .bool a0_3, .int .u32 a0_4, .int .u32 a0_5, .int .i64 0]) ?_ 6 _ rfl; (with_reducible repeat (first | refine blk_drewN ?_ _ | refine blk_drew ?_ | refine blk_alloc ?_ _)); refine blk_put (cs := #[.bool a0_0, .bool a0_1, .bool a0_2, .bool a0_3, .int .u32 a0_4, .int .u32 0, .int .i64 0]) ?_ 5 _ rfl; (with_reducible repeat (first | refine blk_drewN ?_ _ | refine blk_drew ?_ | refine blk_alloc ?_ _)); refine blk_put (cs := #[.bool a0_0, .bool a0_1, .bool a0_2, .bool a0_3, .int .u32 0, .int .u32 0, .int .i64 0]) ?_ 4 _ rfl; (with_reducible repeat (first | refine blk_drewN ?_ _ | refine blk_drew ?_ | refine blk_alloc ?_ _)); refine blk_put (cs := #[.bool a0_0, .bool a0_1, .bool a0_2, .bool false, .int .u32 0, .int .u32 0, .int .i64 0]) ?_ 3 _ rfl; (with_reducible repeat (first | refine blk_drewN ?_ _ | refine blk_drew ?_ | refine blk_alloc ?_ _)); refine blk_put (cs := #[.bool a0_0, .bool a0_1, .bool false, .bool false, .int .u32 0, .int .u32 0, .int .i64 0]) ?_ 2 _ rfl; (with_reducible repeat (first | refine blk_drewN ?_ _ | refine blk_drew ?_ | refine blk_alloc ?_ _)); refine blk_put (cs := #[.bool a0_0, .bool false, .bool false, .bool false, .int .u32 0, .int .u32 0, .int .i64 0]) ?_ 1 _ rfl; (with_reducible repeat (first | refine blk_drewN ?_ _ | refine blk_drew ?_ | refine blk_alloc ?_ _)); refine blk_put (cs := #[.bool false, .bool false, .bool false, .bool false, .int .u32 0, .int .u32 0, .int .i64 0]) ?_ 0 _ rfl; (with_reducible repeat (first | refine blk_drewN ?_ _ | refine blk_drew ?_ | refine blk_alloc ?_ _)); exact BK125.out⟩
                have n2_ : Aside0 (Below w.heap.size w (((((((w114.setCell ⟨gb125, 0, none⟩ (.bool a0_0)).setCell ⟨gb125, 1, none⟩ (.bool a0_1)).setCell ⟨gb125, 2, none⟩ (.bool a0_2)).setCell ⟨gb125, 3, none⟩ (.bool a0_3)).setCell ⟨gb125, 4, none⟩ (.int .u32 a0_4)).setCell ⟨gb125, 5, none⟩ (.int .u32 a0_5)).setCell ⟨gb125, 6, none⟩ (.int .i64 a0_6))) := ⟨by repeat (first | (with_reducible first | exact HB.out | apply below_alloc | apply pw_below_drewN | apply below_drew1 | refine below_set ?_ GE121.out | refine below_set ?_ GE125.out) | exact HB.out)⟩
                (try clear BK121)
                (try clear BK125)
                (try clear HB)
                generalize (((((((w114.setCell ⟨gb125, 0, none⟩ (.bool a0_0)).setCell ⟨gb125, 1, none⟩ (.bool a0_1)).setCell ⟨gb125, 2, none⟩ (.bool a0_2)).setCell ⟨gb125, 3, none⟩ (.bool a0_3)).setCell ⟨gb125, 4, none⟩ (.int .u32 a0_4)).setCell ⟨gb125, 5, none⟩ (.int .u32 a0_5)).setCell ⟨gb125, 6, none⟩ (.int .i64 a0_6)) = w117 at n0_ n1_ n2_ ⊢
                have BK121 := n0_
                have BK125 := n1_
                have HB := n2_
                clear n0_ n1_ n2_
                have n0_ := Aside0.mk (blk_drew BK121.out)
                have n1_ := Aside0.mk (blk_drew BK125.out)
                have n2_ := Aside0.mk (below_drew1 HB.out)
                clear BK121
                clear BK125
                clear HB
                have BK121 := n0_
                have BK125 := n1_
                have HB := n2_
                clear n0_ n1_ n2_
                refine start_ (n := 9) (S := fun w' => w'.cell? ⟨gb121, 0, none⟩ = some (.bool a0_0) ∧ w'.cell? ⟨gb121, 1, none⟩ = some (.bool a0_1) ∧ w'.cell? ⟨gb121, 2, none⟩ = some (.bool a0_2) ∧ w'.cell? ⟨gb121, 3, none⟩ = some (.bool a0_3) ∧ w'.cell? ⟨gb121, 4, none⟩ = some (.int .u32 a0_4) ∧ w'.cell? ⟨gb121, 5, none⟩ = some (.int .u32 a0_5) ∧ w'.cell? ⟨gb121, 6, none⟩ = some (.int .i64 a0_6)) (ds := []) #[false, false, false, false, false, false, false, false, false] (by kernel_rfl) rfl rfl ⟨(blk_cell BK121.out 0).trans rfl, (blk_cell BK121.out 1).trans rfl, (blk_cell BK121.out 2).trans rfl, (blk_cell BK121.out 3).trans rfl, (blk_cell BK121.out 4).trans rfl, (blk_cell BK121.out 5).trans rfl, (blk_cell BK121.out 6).trans rfl⟩ (fun hHeld => ?_); refine with_tabW marlinelaw11_FrameParts.tab4 marlinelaw11_FrameParts.bits4 (fun HT_ HW_ => ?_)
                generalize w117.drew = w118 at BK121 BK125 HB hHeld ⊢
                refine pure_ (i := 1) (N := some 30) (v := ?_) (a' := ?_) #[false, true, false, false, false, false, false, false, false] rfl rfl (any_of HT_.out (by kernel_rfl)) (fun _ _ _ h => h) (Or.inl ⟨by rfl, ?_⟩) ?_ ?_
                rotate_left
                · intro w'
                  go_simp
                  with_reducible rfl
                rotate_left
                · simp only [Act.put, List.setIfInBounds_toArray, List.set_cons_zero, List.set_cons_succ, i64_w, i32_w]
                  rfl
                refine pure_ (i := 3) (N := some 32) (v := ?_) (a' := ?_) #[false, true, false, true, false, false, false, false, false] rfl rfl (any_of HT_.out (by kernel_rfl)) (fun _ _ _ h => h) (Or.inl ⟨by rfl, ?_⟩) ?_ ?_
                rotate_left
                · intro w'
                  go_simp
                  with_reducible rfl
                rotate_left
                · simp only [Act.put, List.setIfInBounds_toArray, List.set_cons_zero, List.set_cons_succ, i64_w, i32_w]
                  rfl
                refine pure_ (i := 5) (N := some 34) (v := ?_) (a' := ?_) #[false, true, false, true, false, true, false, false, false] rfl rfl (any_of HT_.out (by kernel_rfl)) (fun _ _ _ h => h) (Or.inl ⟨by rfl, ?_⟩) ?_ ?_
                rotate_left
                · intro w'
                  go_simp
                  with_reducible rfl
                rotate_left
                · simp only [Act.put, List.setIfInBounds_toArray, List.set_cons_zero, List.set_cons_succ, i64_w, i32_w]
                  rfl
                refine take_ (i := 4) (N := some 33) (v := ?_) (a' := ?_) #[false, true, false, true, true, true, false, false, false] rfl rfl (take_ofW HT_.out HW_.out (by kernel_rfl)) (fun _ _ _ h => h) (Or.inl ⟨by rfl, ?_⟩) hHeld ?_ ?_
                rotate_left
                · rintro w' ⟨s0, s1, s2, s3, s4, s5, s6⟩
                  go_simp
                  with_reducible rfl
                rotate_left
                · simp only [Act.put, List.setIfInBounds_toArray, List.set_cons_zero, List.set_cons_succ, i64_w, i32_w]
                  rfl
                refine one_ (i := 0) (N := some 29) #[true, true, false, true, true, true, false, false, false] rfl rfl (one_of HT_.out (by kernel_rfl)) (by decide) (fun K hK => ?_)
                refine Kd.R_lit_step (Kd.int .u8) _ 5 ?hg (N := 29) ?hd (xs := ([] : List Int)) (inner := []) (ok := fun _ => True) (okp := fun _ => True) ?hr ?hp (fun _ hk => hk) trivial (Below.refl _ _) (Nat.le_refl _) (by simp) ?_; (case hd => rfl); (case hg => rfl); (case hr => first | (go_simp; done) | (go_simp; rfl)); (case hp => exact (Reps.none _ _))
                intro v127 w119 ho120 hb hg_ hnew_
                clear hg_ hnew_
                (first | rw [← Ny126.out] at ho120 | (simp only [Int.reduceToNat] at ho120; rw [← Ny126.out] at ho120))
                have n0_ := Aside0.mk (Kd.R_lower ho120 (below_size (by repeat (first | (with_reducible first | exact HB.out | apply below_alloc | apply pw_below_drewN | apply below_drew1 | refine below_set ?_ GE121.out | refine below_set ?_ GE125.out) | exact HB.out))))
                have n1_ := Aside0.mk (blk_below (g := gb121) (o := .cells #[.bool a0_0, .bool a0_1, .bool a0_2, .bool a0_3, .int .u32 a0_4, .int .u32 a0_5, .int .i64 a0_6] 24 (0, 0)) (by (with_reducible repeat (first | refine blk_drewN ?_ _ | refine blk_drew ?_ | refine blk_alloc ?_ _)); exact BK121.out) hb)
                have n2_ := Aside0.mk (blk_below (g := gb125) (o := .cells #[.bool a0_0, .bool a0_1, .bool a0_2, .bool a0_3, .int .u32 a0_4, .int .u32 a0_5, .int .i64 a0_6] 26 (0, 0)) (by (with_reducible repeat (first | refine blk_drewN ?_ _ | refine blk_drew ?_ | refine blk_alloc ?_ _)); exact BK125.out) hb)
                have n3_ := Aside0.mk (below_step (by repeat (first | (with_reducible first | exact HB.out | apply below_alloc | apply pw_below_drewN | apply below_drew1 | refine below_set ?_ GE121.out | refine below_set ?_ GE125.out) | exact HB.out)) hb)
                clear BK121
                clear BK125
                clear HB
                have HO128 := n0_
                have BK121 := n1_
                have BK125 := n2_
                have HB := n3_
                clear n0_ n1_ n2_ n3_
                clear hb ho120
                refine hK.out _ _ ⟨(blk_cell BK121.out 0).trans rfl, (blk_cell BK121.out 1).trans rfl, (blk_cell BK121.out 2).trans rfl, (blk_cell BK121.out 3).trans rfl, (blk_cell BK121.out 4).trans rfl, (blk_cell BK121.out 5).trans rfl, (blk_cell BK121.out 6).trans rfl⟩ (fun hHeld => ?_)
                clear hK K
                refine norm_ (a' := ?_) ?_ ?_
                rotate_left
                · show Act.put _ (some 29) _ = _
                  simp only [Act.put, List.setIfInBounds_toArray, List.set_cons_zero, List.set_cons_succ, i64_w, i32_w]
                  rfl
                refine one_ (i := 2) (N := some 31) #[true, true, true, true, true, true, false, false, false] rfl rfl (one_of HT_.out (by kernel_rfl)) (by decide) (fun K hK => ?_)
                refine Kd.R_append_rows_step (Kd.int .u8) (w0 := w) w.heap.size (by rfl) (.tmp 29) (.tmp 30) 35 5 (.int .u8 0) 1 rfl Tryd.underlying35 info5 rfl (by decide) (by omega) v127 y126 l1 _ _ _ (fun _ => True) (fun _ => False) rfl rfl ?aO ?aR (fun _ _ h => h) (fun _ h => h.elim) ?aF ?aB ?aS ?aL ?_
                (case aR => repeat (first | exact (Kd.C_below HR1.out HB.out) | (with_reducible refine Kd.C_alloc ?_ _) | (with_reducible refine Kd.C_drewN ?_ _) | (with_reducible refine Kd.C_drew ?_)))
                (case aB => exact (by repeat (first | (with_reducible first | exact HB.out | apply below_alloc | apply pw_below_drewN | apply below_drew1 | refine below_set ?_ GE121.out | refine below_set ?_ GE125.out) | exact HB.out)))
                (case aF => exact (fun _ _ => trivial))
                (case aO => exact (by (with_reducible repeat (first | apply Kd.R_alloc | apply Kd.R_drewN | apply Kd.R_drew)); exact HO128.out))
                (case aS => exact (below_size (by repeat (first | (with_reducible first | exact HB.out | apply below_alloc | apply pw_below_drewN | apply below_drew1 | refine below_set ?_ GE121.out | refine below_set ?_ GE125.out) | exact HB.out))))
                (case aL => have := LMc19.out; omega)
                intro v130 w121 ho hb hg hat
                rw [← Ny129.out] at ho
                have n0_ := Aside0.mk (blk_grown (g := gb121) (o := .cells #[.bool a0_0, .bool a0_1, .bool a0_2, .bool a0_3, .int .u32 a0_4, .int .u32 a0_5, .int .i64 a0_6] 24 (0, 0)) (by (with_reducible repeat (first | refine blk_drewN ?_ _ | refine blk_drew ?_ | refine blk_alloc ?_ _)); exact BK121.out) hg (Kd.R_ne HO128.out BK121.out (by decide)))
                have n1_ := Aside0.mk (blk_grown (g := gb125) (o := .cells #[.bool a0_0, .bool a0_1, .bool a0_2, .bool a0_3, .int .u32 a0_4, .int .u32 a0_5, .int .i64 a0_6] 26 (0, 0)) (by (with_reducible repeat (first | refine blk_drewN ?_ _ | refine blk_drew ?_ | refine blk_alloc ?_ _)); exact BK125.out) hg (Kd.R_ne HO128.out BK125.out (by decide)))
                have n2_ := Aside0.mk (hb)
                have n3_ := Aside0.mk (ho)
                clear BK121
                clear BK125
                clear HB
                clear HO128
                have BK121 := n0_
                have BK125 := n1_
                have HB := n2_
                have HO131 := n3_
                clear n0_ n1_ n2_ n3_
                clear ho hb hg hat
                refine hK.out _ _ ⟨(blk_cell BK121.out 0).trans rfl, (blk_cell BK121.out 1).trans rfl, (blk_cell BK121.out 2).trans rfl, (blk_cell BK121.out 3).trans rfl, (blk_cell BK121.out 4).trans rfl, (blk_cell BK121.out 5).trans rfl, (blk_cell BK121.out 6).trans rfl⟩ (fun hHeld => ?_)
                clear hK K
                refine norm_ (a' := ?_) ?_ ?_
                rotate_left
                · show Act.put _ (some 31) _ = _
                  simp only [Act.put, List.setIfInBounds_toArray, List.set_cons_zero, List.set_cons_succ, i64_w, i32_w]
                  rfl
                refine one_ (i := 6) (N := some 35) #[true, true, true, true, true, true, true, false, false] rfl rfl (one_of HT_.out (by kernel_rfl)) (by decide) (fun K hK => ?_)
                refine goes_ Tryd.func40 (by kernel_rfl) rfl #[.bool a0_1, .slice A1 l1.length c1] (by rfl) rfl rfl (by (try simp only [List.map_toArray, List.map_cons, List.map_nil]); first | done | rfl | (simp only [List.length_drop, List.length_take]; rfl)) ?_
                with_reducible refine (fcs_Trailer.calls kj2 a0_1 _ _ l1 t132 _ ?side1 ?side2 ?side3 A20.out).mono ?_
                (case side1 => repeat (first | exact (Kd.C_below HR1.out HB.out) | (with_reducible refine Kd.C_alloc ?_ _) | (with_reducible refine Kd.C_drewN ?_ _) | (with_reducible refine Kd.C_drew ?_)))
                (case side2 => exact HC1.out)
                (case side3 => repeat (first | exact (GF_below HGF.out HB.out) | (with_reducible refine GF_alloc ?_ _) | (with_reducible refine GF_drewN ?_ _) | (with_reducible refine GF_drew ?_)))
                rintro e w122 ⟨v133, rfl, ho0, hb⟩
                refine ⟨_, rfl, ?_⟩
                have n0_ := Aside0.mk (Kd.R_elder' (by (with_reducible repeat (first | apply Kd.R_alloc | apply Kd.R_drewN | apply Kd.R_drew)); exact HO131.out) (Kd.R_base ho0) hb)
                have n1_ := Aside0.mk (Kd.R_lower (Kd.R_new' ho0 (Kd.R_lt (by (with_reducible repeat (first | apply Kd.R_alloc | apply Kd.R_drewN | apply Kd.R_drew)); exact HO131.out))) (below_size (by repeat (first | (with_reducible first | exact HB.out | apply below_alloc | apply pw_below_drewN | apply below_drew1 | refine below_set ?_ GE121.out | refine below_set ?_ GE125.out) | exact HB.out))))
                have n2_ := Aside0.mk (blk_below (g := gb121) (o := .cells #[.bool a0_0, .bool a0_1, .bool a0_2, .bool a0_3, .int .u32 a0_4, .int .u32 a0_5, .int .i64 a0_6] 24 (0, 0)) (by (with_reducible repeat (first | refine blk_drewN ?_ _ | refine blk_drew ?_ | refine blk_alloc ?_ _)); exact BK121.out) hb)
                have n3_ := Aside0.mk (blk_below (g := gb125) (o := .cells #[.bool a0_0, .bool a0_1, .bool a0_2, .bool a0_3, .int .u32 a0_4, .int .u32 a0_5, .int .i64 a0_6] 26 (0, 0)) (by (with_reducible repeat (first | refine blk_drewN ?_ _ | refine blk_drew ?_ | refine blk_alloc ?_ _)); exact BK125.out) hb)
                have n4_ := Aside0.mk (below_step (by repeat (first | (with_reducible first | exact HB.out | apply below_alloc | apply pw_below_drewN | apply below_drew1 | refine below_set ?_ GE121.out | refine below_set ?_ GE125.out) | exact HB.out)) hb)
                clear HO131
                clear BK121
                clear BK125
                clear HB
                have HO131 := n0_
                have HO134 := n1_
                have BK121 := n2_
                have BK125 := n3_
                have HB := n4_
                clear n0_ n1_ n2_ n3_ n4_
                (try clear hb)
                (try clear hb2)
                (try clear hk)
                (try clear hi)
                (try clear ho0)
                obtain ⟨Ao124, co124, eo124⟩ := Kd.R_slice HO134.out
                (first | subst eo124 | (injection eo124 with f1_ f2_ f3_; have f4_ := f1_.symm; have f5_ := f3_.symm; clear f1_ f2_ f3_; subst f4_; subst f5_))
                refine hK.out _ _ ⟨(blk_cell BK121.out 0).trans rfl, (blk_cell BK121.out 1).trans rfl, (blk_cell BK121.out 2).trans rfl, (blk_cell BK121.out 3).trans rfl, (blk_cell BK121.out 4).trans rfl, (blk_cell BK121.out 5).trans rfl, (blk_cell BK121.out 6).trans rfl⟩ (fun hHeld => ?_)
                clear hK K
                refine norm_ (a' := ?_) ?_ ?_
                rotate_left
                · show Act.put _ (some 35) _ = _
                  simp only [Act.put, List.setIfInBounds_toArray, List.set_cons_zero, List.set_cons_succ, i64_w, i32_w]
                  rfl
                refine one_ (i := 7) (N := some 36) #[true, true, true, true, true, true, true, true, false] rfl rfl (one_of HT_.out (by kernel_rfl)) (by decide) (fun K hK => ?_)
                refine Kd.R_append_rows_step (Kd.int .u8) (w0 := w) w.heap.size (by rfl) (.tmp 31) (.tmp 35) 35 5 (.int .u8 0) 1 rfl Tryd.underlying35 info5 rfl (by decide) (by omega) v130 y129 t132 _ _ _ (fun k_ => some k_ ≠ (.slice Ao124 t132.length co124 : Value).ownBlock) (fun _ => False) rfl rfl ?aO ?aR (fun _ _ h => h) (fun _ h => h.elim) ?aF ?aB ?aS ?aL ?_
                (case aR => repeat (first | exact (Kd.R_reads' HO134.out).2.2 | (with_reducible refine Kd.C_alloc ?_ _) | (with_reducible refine Kd.C_drewN ?_ _) | (with_reducible refine Kd.C_drew ?_)))
                (case aB => exact (by repeat (first | (with_reducible first | exact HB.out | apply below_alloc | apply pw_below_drewN | apply below_drew1 | refine below_set ?_ GE121.out | refine below_set ?_ GE125.out) | exact HB.out)))
                (case aF => exact (fun k_ hk => Kd.fresh' (Kd.R_lt (by (with_reducible repeat (first | apply Kd.R_alloc | apply Kd.R_drewN | apply Kd.R_drew)); exact HO134.out)) k_ hk))
                (case aO => exact (by (with_reducible repeat (first | apply Kd.R_alloc | apply Kd.R_drewN | apply Kd.R_drew)); exact Kd.R_mono HO131.out (fun _ hk => hk.2)))
                (case aS => exact (below_size (by repeat (first | (with_reducible first | exact HB.out | apply below_alloc | apply pw_below_drewN | apply below_drew1 | refine below_set ?_ GE121.out | refine below_set ?_ GE125.out) | exact HB.out))))
                (case aL => have := LMc21.out; omega)
                intro v136 w123 ho hb hg hat
                rw [← Ny135.out] at ho
                have n0_ := Aside0.mk (blk_grown (g := gb121) (o := .cells #[.bool a0_0, .bool a0_1, .bool a0_2, .bool a0_3, .int .u32 a0_4, .int .u32 a0_5, .int .i64 a0_6] 24 (0, 0)) (by (with_reducible repeat (first | refine blk_drewN ?_ _ | refine blk_drew ?_ | refine blk_alloc ?_ _)); exact BK121.out) hg (Kd.R_ne HO131.out BK121.out (by decide)))
                have n1_ := Aside0.mk (blk_grown (g := gb125) (o := .cells #[.bool a0_0, .bool a0_1, .bool a0_2, .bool a0_3, .int .u32 a0_4, .int .u32 a0_5, .int .i64 a0_6] 26 (0, 0)) (by (with_reducible repeat (first | refine blk_drewN ?_ _ | refine blk_drew ?_ | refine blk_alloc ?_ _)); exact BK125.out) hg (Kd.R_ne HO131.out BK125.out (by decide)))
                have n2_ := Aside0.mk (Kd.R_after (ok := (fun _ => True)) (by (with_reducible repeat (first | apply Kd.R_alloc | apply Kd.R_drewN | apply Kd.R_drew)); exact HO134.out) hg hat)
                have n3_ := Aside0.mk (hb)
                have n4_ := Aside0.mk (ho)
                clear BK121
                clear BK125
                clear HO134
                clear HB
                clear HO131
                have BK121 := n0_
                have BK125 := n1_
                have HO134 := n2_
                have HB := n3_
                have HO137 := n4_
                clear n0_ n1_ n2_ n3_ n4_
                clear ho hb hg hat
                refine hK.out _ _ ⟨(blk_cell BK121.out 0).trans rfl, (blk_cell BK121.out 1).trans rfl, (blk_cell BK121.out 2).trans rfl, (blk_cell BK121.out 3).trans rfl, (blk_cell BK121.out 4).trans rfl, (blk_cell BK121.out 5).trans rfl, (blk_cell BK121.out 6).trans rfl⟩ (fun hHeld => ?_)
                clear hK K
                refine norm_ (a' := ?_) ?_ ?_
                rotate_left
                · show Act.put _ (some 36) _ = _
                  simp only [Act.put, List.setIfInBounds_toArray, List.set_cons_zero, List.set_cons_succ, i64_w, i32_w]
                  rfl
                refine pure_ (i := 8) (N := some 6) (v := ?_) (a' := ?_) #[true, true, true, true, true, true, true, true, true] rfl rfl (any_of HT_.out (by kernel_rfl)) (fun _ _ _ h => h) (Or.inl ⟨by rfl, ?_⟩) ?_ ?_
                rotate_left
                · intro w'
                  go_simp
                  with_reducible rfl
                rotate_left
                · simp only [Act.put, List.setIfInBounds_toArray, List.set_cons_zero, List.set_cons_succ, i64_w, i32_w]
                  rfl
                refine done_ (done_of HT_.out (by kernel_rfl)) ?_
                have hcz125_0 : w123.cell? ⟨gb125, 0, none⟩ = some (.bool a0_0) := (blk_cell BK125.out 0).trans rfl
                have hcz125_1 : w123.cell? ⟨gb125, 1, none⟩ = some (.bool a0_1) := (blk_cell BK125.out 1).trans rfl
                have hcz125_2 : w123.cell? ⟨gb125, 2, none⟩ = some (.bool a0_2) := (blk_cell BK125.out 2).trans rfl
                have hcz125_3 : w123.cell? ⟨gb125, 3, none⟩ = some (.bool a0_3) := (blk_cell BK125.out 3).trans rfl
                have hcz125_4 : w123.cell? ⟨gb125, 4, none⟩ = some (.int .u32 a0_4) := (blk_cell BK125.out 4).trans rfl
                have hcz125_5 : w123.cell? ⟨gb125, 5, none⟩ = some (.int .u32 a0_5) := (blk_cell BK125.out 5).trans rfl
                have hcz125_6 : w123.cell? ⟨gb125, 6, none⟩ = some (.int .i64 a0_6) := (blk_cell BK125.out 6).trans rfl
                have hfz125_0 := blk_frozen BK125.out 0
                have hfz125_1 := blk_frozen BK125.out 1
                have hfz125_2 := blk_frozen BK125.out 2
                have hfz125_3 := blk_frozen BK125.out 3
                have hfz125_4 := blk_frozen BK125.out 4
                have hfz125_5 := blk_frozen BK125.out 5
                have hfz125_6 := blk_frozen BK125.out 6
                obtain ⟨Ao126, co126, eo126⟩ := Kd.R_slice HO137.out
                subst eo126
                try go_wp2_with (first | ((with_reducible refine gate_callee (f := 49) rfl ?_); refine goesL_ (some 40) rfl rfl Tryd.func49 (by kernel_rfl) rfl #[.agg #[.bool a0_0, .bool a0_1, .bool a0_2, .bool a0_3, .int .u32 a0_4, .int .u32 a0_5, .int .i64 a0_6], .slice Ao126 y135.length co126] rfl (by (try simp only [List.map_toArray, List.map_cons, List.map_nil]); first | done | rfl | (simp only [List.length_drop, List.length_take]; rfl)) ?_; (with_reducible refine (frame_Parse.calls kj2 a0_0 a0_1 a0_2 a0_3 a0_4 a0_5 a0_6 _ _ y135 t138 t139 t142 _ ?side1 ?side2 ?side3 ?side4 A22.out).mono ?_); (case side1 => repeat (first | exact (Kd.R_reads' HO137.out).2.2 | (with_reducible refine Kd.C_alloc ?_ _) | (with_reducible refine Kd.C_drewN ?_ _) | (with_reducible refine Kd.C_drew ?_))); (case side2 => exact (Kd.R_reads' HO137.out).2.1); (case side3 => repeat (first | exact (GF_below HGF.out HB.out) | (with_reducible refine GF_alloc ?_ _) | (with_reducible refine GF_drewN ?_ _) | (with_reducible refine GF_drew ?_))); (case side4 => repeat (first | exact (GH_below HGH.out HB.out) | (with_reducible refine GH_alloc ?_ _) | (with_reducible refine GH_drewN ?_ _) | (with_reducible refine GH_drew ?_))); rintro e w127 ⟨v140, rfl, ho0, hb⟩; refine ⟨_, rfl, ?_⟩; have n0_ := Aside0.mk (Kd.R_elder' (by (with_reducible repeat (first | apply Kd.R_alloc | apply Kd.R_drewN | apply Kd.R_drew)); exact HO134.out) (Kd.R_base ho0) hb); have n1_ := Aside0.mk (Kd.R_elder' (by (with_reducible repeat (first | apply Kd.R_alloc | apply Kd.R_drewN | apply Kd.R_drew)); exact HO137.out) (Kd.R_base ho0) hb); have n2_ := Aside0.mk (Kd.R_lower (Kd.R_new' (Kd.R_new' ho0 (Kd.R_lt (by (with_reducible repeat (first | apply Kd.R_alloc | apply Kd.R_drewN | apply Kd.R_drew)); exact HO134.out))) (Kd.R_lt (by (with_reducible repeat (first | apply Kd.R_alloc | apply Kd.R_drewN | apply Kd.R_drew)); exact HO137.out))) (below_size (by repeat (first | (with_reducible first | exact HB.out | apply below_alloc | apply pw_below_drewN | apply below_drew1 | refine below_set ?_ GE121.out | refine below_set ?_ GE125.out) | exact HB.out)))); have n3_ := Aside0.mk (blk_below (g := gb121) (o := .cells #[.bool a0_0, .bool a0_1, .bool a0_2, .bool a0_3, .int .u32 a0_4, .int .u32 a0_5, .int .i64 a0_6] 24 (0, 0)) (by (with_reducible repeat (first | refine blk_drewN ?_ _ | refine blk_drew ?_ | refine blk_alloc ?_ _)); exact BK121.out) hb); have n4_ := Aside0.mk (blk_below (g := gb125) (o := .cells #[.bool a0_0, .bool a0_1, .bool a0_2, .bool a0_3, .int .u32 a0_4, .int .u32 a0_5, .int .i64 a0_6] 26 (0, 0)) (by (with_reducible repeat (first | refine blk_drewN ?_ _ | refine blk_drew ?_ | refine blk_alloc ?_ _)); exact BK125.out) hb); have n5_ := Aside0.mk (below_step (by repeat (first | (with_reducible first | exact HB.out | apply below_alloc | apply pw_below_drewN | apply below_drew1 | refine below_set ?_ GE121.out | refine below_set ?_ GE125.out) | exact HB.out)) hb); clear HO134; clear HO137; clear BK121; clear BK125; clear HB; have HO134 := n0_; have HO137 := n1_; have HO141 := n2_; have BK121 := n3_; have BK125 := n4_; have HB := n5_; clear n0_ n1_ n2_ n3_ n4_ n5_; (try clear hb); (try clear hb2); (try clear hk); (try clear hi); (try clear ho0)))
                go_ret
                exact ⟨by first | rfl | (simp [errW_none, errW_some] <;> rfl) | (simp [*, errW_none, errW_some] <;> rfl), by repeat (first | (with_reducible first | exact HB.out | apply below_alloc | apply pw_below_drewN | apply below_drew1 | refine below_set ?_ GE121.out | refine below_set ?_ GE125.out) | exact HB.out)⟩
          · rw [if_neg c21] at H
            exact absurd H (by simp)
        · rw [if_neg c19] at H
          exact absurd H (by simp)
end Go.Proofs.YtggpejjfgphihaaDoor.L
end

section
namespace Go.Proofs.YtggpejjfgphihaaDoor.Pu
open Go.RowKit Go.Proofs.YtggpejjfgphihaaDoorW.PrintWords Go.Proofs.YtggpejjfgphihaaDoorW.PrintLast Go.Proofs.YtggpejjfgphihaaDoorW.PrintMore
open Go.Proofs.YtggpejjfgphihaaDoor.Given Go.Proofs.YtggpejjfgphihaaDoor.D Go.Proofs.YtggpejjfgphihaaDoor.H Go.Proofs.YtggpejjfgphihaaDoor.E Go.Proofs.YtggpejjfgphihaaDoor.L
set_option linter.unusedVariables false
set_option linter.unusedSimpArgs false
theorem parts_out (wide acfc pfc : Bool) (m : Nat) (B : List Nat) (hB : ∀ x ∈ B, x < 256) :
    (∃ e, parseN wide acfc pfc m (B ++ trailerN wide B) = (0, [], e) ∧ e ≠ 0 ∧ e ≠ 6) ∨
    ∃ p I, parseN wide acfc pfc m (B ++ trailerN wide B) = (p, I, 0) ∧ right p = true ∧ p < 65536 ∧ I.length ≤ m ∧ (∀ x ∈ I, x < 256) ∧ ((headN acfc pfc p).length + I.length ≤ B.length ∨ p = 49185) ∧ I.length ≤ B.length := by
  have hl : (B ++ trailerN wide B).length = B.length + sizeN wide := by rw [List.length_append, trailerN_length]
  have ht : (B ++ trailerN wide B).take ((B ++ trailerN wide B).length - sizeN wide) = B := by rw [hl, Nat.add_sub_cancel, List.take_left]
  have ho := getHead_out acfc pfc B hB
  unfold parseN
  rw [ht, goodB_trailer wide B hB]
  by_cases h1 : m + 4 + sizeN wide < (B ++ trailerN wide B).length
  · rw [if_pos h1]; exact Or.inl ⟨3, rfl, by decide, by decide⟩
  rw [if_neg h1]
  by_cases h2 : (B ++ trailerN wide B).length ≤ sizeN wide
  · rw [if_pos h2]; exact Or.inl ⟨2, rfl, by decide, by decide⟩
  rw [if_neg h2, if_neg (show ¬ (true = false) by decide)]
  generalize getHead acfc pfc B = t at ho ⊢
  obtain ⟨p, n, e⟩ := t
  simp only at ho ⊢
  by_cases h3 : e = 0
  · subst h3
    obtain ⟨o1, o2, o3, o4⟩ := ho.2 rfl
    rw [if_neg (by decide)]
    by_cases h4 : m < (B.drop n).length
    · rw [if_pos h4]; exact Or.inl ⟨3, rfl, by decide, by decide⟩
    · rw [if_neg h4]
      have hd : (B.drop n).length = B.length - n := List.length_drop
      refine Or.inr ⟨p, B.drop n, rfl, o1, o2, by omega, fun x hx => hB x (List.mem_of_mem_drop hx), ?_, by omega⟩
      rcases o4 with o4 | o4
      · exact Or.inl (by omega)
      · exact Or.inr o4
  · rw [if_pos h3]; exact Or.inl ⟨e, rfl, h3, ho.1⟩
theorem frameParts_f (a wide acfc pfc : Bool) (x y z : Int) (l : List Int) (hl : l.all okByte = true) :
    marlinelaw11_FrameParts.f 450 a wide acfc pfc x y z l = some true := by
  rw [ofN_of hl]
  have hB := bytes_of11 hl
  generalize l.map Int.toNat = B at *
  have hdone : marlinelaw11_FrameParts.j0 450 (ofN B) true a wide acfc pfc x y z = some true := by
    rw [marlinelaw11_FrameParts.j0, if_pos rfl, bd (speaks11 444)]
  unfold marlinelaw11_FrameParts.f
  rw [bd (speaks11 445), if_pos rfl]
  unfold C.marlineref08_Check.f
  by_cases h1 : z < 64
  · rw [if_pos h1, Option.bind_some, if_neg (by decide)]; exact hdone
  rw [if_neg h1]
  by_cases h2 : z > 65535
  · rw [if_pos h2, Option.bind_some, if_neg (by decide)]; exact hdone
  rw [if_neg h2, Option.bind_some, if_pos rfl, ofN_length]
  by_cases h3 : (B.length : Int) > 400
  · rw [decide_eq_true h3]; exact hdone
  rw [decide_eq_false h3]
  obtain ⟨m, rfl⟩ := Int.eq_ofNat_of_zero_le (show 0 ≤ z by omega)
  have hm : m ≤ 65535 := by omega
  have hsz := size_le wide
  have hT : ∀ x ∈ B ++ trailerN wide B, x < 256 := by
    intro x hx
    rcases List.mem_append.1 hx with hx | hx
    · exact hB x hx
    · exact trailerN_lt wide B x hx
  have hTl : (B ++ trailerN wide B).length = B.length + sizeN wide := by rw [List.length_append, trailerN_length]
  rw [marlinelaw11_FrameParts.j0, if_neg (by decide), Option.bind_some, if_pos (by rw [ofN_length]; simp; omega), Option.bind_some, List.nil_append, bd (f_Trailer 444 wide B hB), if_pos (by rw [ofN_length, ofN_length, trailerN_length]; omega), Option.bind_some, ← ofN_append,
    bd (f_Parse 446 a wide acfc pfc x y m hm _ hT (by omega))]
  rcases parts_out wide acfc pfc m B hB with ⟨e, he, e0, e6⟩ | ⟨p, I, he, hr, hp, hI, hIb, hlen, hIl⟩
  · rw [he]
    show (if ((e : Nat) : Int) = 0 then _ else if ((0 : Nat) : Int) = 0 then (if ((ofN []).length : Int) = 0 then some (((e : Nat) : Int) != 6) else some false) else some false) = some true
    rw [if_neg (by omega), if_pos (show ((0 : Nat) : Int) = 0 from rfl), if_pos (show ((ofN []).length : Int) = 0 from rfl)]
    congr 1
    simp; omega
  · rw [he]
    have hF := frameN_lt wide acfc pfc p hp I hIb
    have hFl := frameN_len wide acfc pfc p I
    have hh := headN_le acfc pfc p
    have hback := parse_back wide acfc pfc acfc pfc id id p hp hr I hIb m hI
    have hb1 := f_Build 444 a wide acfc pfc x y (m : Int) p hp I hIb (by omega)
    rw [if_pos hr, if_neg (by omega)] at hb1
    have hj : marlinelaw11_FrameParts.j1 449 (ofN (B ++ trailerN wide B)) (p : Int) (ofN I) (ofN (frameN wide acfc pfc p I)) false a wide acfc pfc x y (m : Int) = some true := by
      rw [marlinelaw11_FrameParts.j1, if_neg (by decide), bd (f_Parse 445 a wide acfc pfc x y m hm _ hF (by omega)), hback]
      show (if ((0 : Nat) : Int) = 0 then (if ((p : Nat) : Int) = ((p : Nat) : Int) then ((marlineref01_Equal.f 448 (ofN I) (ofN I)).bind fun t153 => (if t153 = true then (if ((ofN (frameN wide acfc pfc p I)).length : Int) ≤ ((ofN (B ++ trailerN wide B)).length : Int) then (some true) else (some (((p : Nat) : Int) == 49185))) else (some false))) else (some false)) else (some false)) = some true
      rw [if_pos (show ((0 : Nat) : Int) = 0 from rfl), if_pos rfl, bd (r_Equal 448 I I (by omega) (by omega)), if_pos (by simp), ofN_length, ofN_length]
      rcases hlen with hlen | hlen
      · rw [if_pos (by omega)]
      · subst hlen
        split
        · rfl
        · rfl
    show (if ((0 : Nat) : Int) = 0 then ((frame_Build.f 449 a wide acfc pfc x y (m : Int) (p : Int) (ofN I)).bind fun bt143 => (if bt143.2 = 0 then ((marlineref09_Right.f (wrap64 (p : Int))).bind fun t147 => (if t147 = true then (marlinelaw11_FrameParts.j1 449 (ofN (B ++ trailerN wide B)) (p : Int) (ofN I) bt143.1 (decide (((ofN I).length : Int) > (m : Int))) a wide acfc pfc x y (m : Int)) else (marlinelaw11_FrameParts.j1 449 (ofN (B ++ trailerN wide B)) (p : Int) (ofN I) bt143.1 true a wide acfc pfc x y (m : Int)))) else (marlinelaw11_FrameParts.j1 449 (ofN (B ++ trailerN wide B)) (p : Int) (ofN I) bt143.1 true a wide acfc pfc x y (m : Int)))) else _) = some true
    rw [if_pos (show ((0 : Nat) : Int) = 0 from rfl), bd hb1]
    show (if (0 : Int) = 0 then ((marlineref09_Right.f (wrap64 (p : Int))).bind fun t147 => (if t147 = true then (marlinelaw11_FrameParts.j1 449 (ofN (B ++ trailerN wide B)) (p : Int) (ofN I) (ofN (frameN wide acfc pfc p I)) (decide (((ofN I).length : Int) > (m : Int))) a wide acfc pfc x y (m : Int)) else _)) else _) = some true
    rw [if_pos rfl, w64 p (by omega), bd (r_Right p hp), if_pos hr, ofN_length, decide_eq_false (by omega)]
    exact hj
end Go.Proofs.YtggpejjfgphihaaDoor.Pu
end

section
namespace Go.Proofs.YtggpejjfgphihaaDoor.Wk
open Go.Proofs.YtggpejjfgphihaaDoor.Given Go.Proofs.YtggpejjfgphihaaDoor.L Go.Proofs.YtggpejjfgphihaaDoor.Pu Go.RowKit Go.Proofs.YtggpejjfgphihaaDoorW.PrintWords
set_option linter.unusedVariables false
theorem parts_walk (a0 a1 a2 a3 : Bool) (a4 a5 a6 : Int) (A : Option Addr) (cap : Nat) (l : List Int) (w : World) (hgF : GF w) (hgH : GH w) (h4 : 0 ≤ a4 ∧ a4 < 4294967296) (h5 : 0 ≤ a5 ∧ a5 < 4294967296) (h6 : -9223372036854775808 ≤ a6 ∧ a6 ≤ 9223372036854775807)
    (hr : Kd.C (Kd.int .u8) w A l.length l) (hc : l.length ≤ cap) (hb : l.all okByte = true) :
    Calls Tryd.prog 14 #[.agg #[.bool a0, .bool a1, .bool a2, .bool a3, .int .u32 a4, .int .u32 a5, .int .i64 a6], .slice A l.length cap] w fun e w' => e = .returned (.bool true) ∧ Below w.heap.size w w' :=
  marlinelaw11_FrameParts.calls 450 a0 a1 a2 a3 a4 a5 a6 A cap l true w hr hc hgF hgH (frameParts_f a0 a1 a2 a3 a4 a5 a6 l hb)
end Go.Proofs.YtggpejjfgphihaaDoor.Wk
end
