/- Laid together by wip/prune.py: what the claim needs of the session's texts and of the print program's words. -/
import Derived.Test.YtggpejjfgphihaaDoorMgFrameBack1
import Derived.Test.YtggpejjfgphihaaDoorProg
import Derived.Below
import Derived.Deep.Draws
import Derived.Deep.AppendLies
import Derived.Maps.AppendAt
import Derived.OwnWalk
import Derived.Laws.BytesArg
import Derived.Laws.MakeOwn
import Derived.Laws.OwnMore
import Derived.Deep.OwnRows
import Derived.Tactics
import Derived.Lib.ConvBytes
import Derived.Laws.Slices
import Derived.WalkKit
import Derived.KernelRfl
import Derived.RowKit3
import Derived.Deep.LoopGhost
import Derived.Deep.QuietTactic
import Derived.BigQuiet
import Derived.WideLaws
import Derived.Deep.DeepCutAuto
import Derived.Deep.CutBlock
import Derived.Deep.RegionHeld3
import Derived.Laws.Rows
import Derived.Lib.AppendStr
import Derived.ArgAppend
import Derived.Laws.IdiomCopy
import Derived.OrdersHeld
import Derived.Laws.BitsLemmas
import Derived.RowKit
import Derived.RegionTactic
section
namespace Go.Proofs.YtggpejjfgphihaaDoor.E
open Go.Proofs.YtggpejjfgphihaaDoor.Given Go.Proofs.YtggpejjfgphihaaDoor.D Go.Proofs.YtggpejjfgphihaaDoor.H Go.RowKit Go.Proofs.YtggpejjfgphihaaDoorW.PrintWords Go.Proofs.YtggpejjfgphihaaDoorW.PrintLast Go.Proofs.YtggpejjfgphihaaDoorW.PrintMore
attribute [local go_sem] max2_int min2_int max_two min_two max_three min_three max_four min_four
open Go.Proofs.YtggpejjfgphihaaDoor.C (config_Most.f config_Most.calls marlineref08_Check.f marlineref08_Check.calls)
set_option linter.unusedVariables false
set_option linter.unusedSimpArgs false
def frame_Parse.f (k : Nat) (a0_0 : Bool) (a0_1 : Bool) (a0_2 : Bool) (a0_3 : Bool) (a0_4 : Int) (a0_5 : Int) (a0_6 : Int) (l1 : List Int) : Option (Int × List Int × Int) := (fcs_Size.f a0_1).bind fun t102 => ((config_Most.f a0_0 a0_1 a0_2 a0_3 a0_4 a0_5 a0_6).bind fun t103 => (if (l1.length : Int) > t103 then (some (0, ([] : List Int), 3)) else (if (l1.length : Int) ≤ t102 then (some (0, ([] : List Int), 2)) else ((fcs_Good.f a0_1 l1).bind fun t104 => (if t104 = true then (if 0 ≤ (wrap64 ((l1.length : Int) - t102)) then (if (wrap64 ((l1.length : Int) - t102)) ≤ (l1.length : Int) then ((head_Get.f k a0_0 a0_1 a0_2 a0_3 a0_4 a0_5 a0_6 (l1.take ((wrap64 ((l1.length : Int) - t102)) : Int).toNat)).bind fun bt106 => (if bt106.2.2 = 0 then (if 0 ≤ bt106.2.1 then (if bt106.2.1 ≤ ((l1.take ((wrap64 ((l1.length : Int) - t102)) : Int).toNat).length : Int) then ((slices_Clone_byte_byte.f ((l1.take ((wrap64 ((l1.length : Int) - t102)) : Int).toNat).drop (bt106.2.1 : Int).toNat)).bind fun t110 => (if (t110.length : Int) > a0_6 then (some (0, ([] : List Int), 3)) else (some (bt106.1, t110, 0)))) else (none)) else (none)) else (some (0, ([] : List Int), bt106.2.2)))) else (none)) else (none)) else (some (0, ([] : List Int), 6)))))))
set_option maxHeartbeats 8000000 in
set_option maxRecDepth 100000 in
theorem frame_Parse.calls (k : Nat) (a0_0 : Bool) (a0_1 : Bool) (a0_2 : Bool) (a0_3 : Bool) (a0_4 : Int) (a0_5 : Int) (a0_6 : Int) (A1 : Option Addr) (c1 : Nat) (l1 : List Int) (r1 : Int) (r2 : List Int) (r3 : Int) (w : World) (hr1 : Kd.C (Kd.int .u8) w A1 l1.length l1) (hc1 : l1.length ≤ c1) (hgF : GF w) (hgH : GH w) (h : frame_Parse.f k a0_0 a0_1 a0_2 a0_3 a0_4 a0_5 a0_6 l1 = some (r1, r2, r3)) :
    Calls Tryd.prog 49 #[.agg #[.bool a0_0, .bool a0_1, .bool a0_2, .bool a0_3, .int .u32 a0_4, .int .u32 a0_5, .int .i64 a0_6], .slice A1 l1.length c1] w fun e w' => ∃ v1_ : Value, e = .returned (.tuple #[.int .u16 r1, v1_, .int .i64 r3]) ∧ Kd.R (Kd.int .u8) 5 w' w.heap.size (fun _ => True) v1_ r2 ∧ Below w.heap.size w w' := by
  have hu26 := Tryd.underlying26
  have HGF := Aside0.mk hgF
  clear hgF
  have HGH := Aside0.mk hgH
  clear hgH
  have HR1 := Aside0.mk hr1
  have HC1 := Aside0.mk hc1
  clear hr1 hc1
  have HB := Aside0.mk (Below.refl w.heap.size w)
  have H : ((fcs_Size.f a0_1).bind fun t102 => ((config_Most.f a0_0 a0_1 a0_2 a0_3 a0_4 a0_5 a0_6).bind fun t103 => (if (l1.length : Int) > t103 then (some (0, ([] : List Int), 3)) else (if (l1.length : Int) ≤ t102 then (some (0, ([] : List Int), 2)) else ((fcs_Good.f a0_1 l1).bind fun t104 => (if t104 = true then (if 0 ≤ (wrap64 ((l1.length : Int) - t102)) then (if (wrap64 ((l1.length : Int) - t102)) ≤ (l1.length : Int) then ((head_Get.f k a0_0 a0_1 a0_2 a0_3 a0_4 a0_5 a0_6 (l1.take ((wrap64 ((l1.length : Int) - t102)) : Int).toNat)).bind fun bt106 => (if bt106.2.2 = 0 then (if 0 ≤ bt106.2.1 then (if bt106.2.1 ≤ ((l1.take ((wrap64 ((l1.length : Int) - t102)) : Int).toNat).length : Int) then ((slices_Clone_byte_byte.f ((l1.take ((wrap64 ((l1.length : Int) - t102)) : Int).toNat).drop (bt106.2.1 : Int).toNat)).bind fun t110 => (if (t110.length : Int) > a0_6 then (some (0, ([] : List Int), 3)) else (some (bt106.1, t110, 0)))) else (none)) else (none)) else (some (0, ([] : List Int), bt106.2.2)))) else (none)) else (none)) else (some (0, ([] : List Int), 6)))))))) = some (r1, r2, r3) := h
  clear h
  replace H := Option.bind_eq_some_iff.mp H
  obtain ⟨t102, A30, H⟩ := H
  replace H : ((config_Most.f a0_0 a0_1 a0_2 a0_3 a0_4 a0_5 a0_6).bind fun t103 => (if (l1.length : Int) > t103 then (some (0, ([] : List Int), 3)) else (if (l1.length : Int) ≤ t102 then (some (0, ([] : List Int), 2)) else ((fcs_Good.f a0_1 l1).bind fun t104 => (if t104 = true then (if 0 ≤ (wrap64 ((l1.length : Int) - t102)) then (if (wrap64 ((l1.length : Int) - t102)) ≤ (l1.length : Int) then ((head_Get.f k a0_0 a0_1 a0_2 a0_3 a0_4 a0_5 a0_6 (l1.take ((wrap64 ((l1.length : Int) - t102)) : Int).toNat)).bind fun bt106 => (if bt106.2.2 = 0 then (if 0 ≤ bt106.2.1 then (if bt106.2.1 ≤ ((l1.take ((wrap64 ((l1.length : Int) - t102)) : Int).toNat).length : Int) then ((slices_Clone_byte_byte.f ((l1.take ((wrap64 ((l1.length : Int) - t102)) : Int).toNat).drop (bt106.2.1 : Int).toNat)).bind fun t110 => (if (t110.length : Int) > a0_6 then (some (0, ([] : List Int), 3)) else (some (bt106.1, t110, 0)))) else (none)) else (none)) else (some (0, ([] : List Int), bt106.2.2)))) else (none)) else (none)) else (some (0, ([] : List Int), 6))))))) = some (r1, r2, r3) := H
  have A3 := Aside0.mk A30
  clear A30
  replace H := Option.bind_eq_some_iff.mp H
  obtain ⟨t103, A40, H⟩ := H
  replace H : (if (l1.length : Int) > t103 then (some (0, ([] : List Int), 3)) else (if (l1.length : Int) ≤ t102 then (some (0, ([] : List Int), 2)) else ((fcs_Good.f a0_1 l1).bind fun t104 => (if t104 = true then (if 0 ≤ (wrap64 ((l1.length : Int) - t102)) then (if (wrap64 ((l1.length : Int) - t102)) ≤ (l1.length : Int) then ((head_Get.f k a0_0 a0_1 a0_2 a0_3 a0_4 a0_5 a0_6 (l1.take ((wrap64 ((l1.length : Int) - t102)) : Int).toNat)).bind fun bt106 => (if bt106.2.2 = 0 then (if 0 ≤ bt106.2.1 then (if bt106.2.1 ≤ ((l1.take ((wrap64 ((l1.length : Int) - t102)) : Int).toNat).length : Int) then ((slices_Clone_byte_byte.f ((l1.take ((wrap64 ((l1.length : Int) - t102)) : Int).toNat).drop (bt106.2.1 : Int).toNat)).bind fun t110 => (if (t110.length : Int) > a0_6 then (some (0, ([] : List Int), 3)) else (some (bt106.1, t110, 0)))) else (none)) else (none)) else (some (0, ([] : List Int), bt106.2.2)))) else (none)) else (none)) else (some (0, ([] : List Int), 6)))))) = some (r1, r2, r3) := H
  have A4 := Aside0.mk A40
  clear A40
  by_cases c5 : (l1.length : Int) > t103
  · rw [if_pos c5] at H
    have c5b0 : decide (t103 < (l1.length : Int)) = true := decide_eq_true c5
    clear c5
    simp only [Option.some.injEq, Prod.mk.injEq] at H
    obtain ⟨rfl, rfl, rfl⟩ := H
    go_enter Tryd.func49, Tryd.ntmps49
    go_wp2_with (first | ((with_reducible refine gate_dst (N := 2) rfl ?_); refine box_event ?hg (N := 2) ?hd (cs := #[.bool a0_0, .bool a0_1, .bool a0_2, .bool a0_3, .int .u32 a0_4, .int .u32 a0_5, .int .i64 a0_6]) (t := 26) ?hr ?_; (case hd => rfl); (case hg => rfl); (case hr => first | (go_simp; done) | (go_simp; rfl)); intro gb101 hg w6 hbox hb; have n0_ := Aside0.mk (below_step (by repeat (first | (with_reducible first | exact HB.out | apply below_alloc | apply pw_below_drewN | apply below_drew1) | exact HB.out)) hb); have n1_ := Aside0.mk (hbox); have n2_ := Aside0.mk ((by rw [hg]; exact (below_size (by repeat (first | (with_reducible first | exact HB.out | apply below_alloc | apply pw_below_drewN | apply below_drew1) | exact HB.out))) : w.heap.size ≤ gb101)); have n3_ := Aside0.mk ((by rw [hg]; exact (below_size (by repeat (first | (with_reducible first | exact HB.out | apply below_alloc | apply pw_below_drewN | apply below_drew1) | exact HB.out))) : w.heap.size ≤ gb101)); clear HB; have HB := n0_; have BK101 := n1_; have GW101 := n2_; have GE101 := n3_; clear n0_ n1_ n2_ n3_; clear hb hbox hg; have hcz7_0 : w6.cell? ⟨gb101, 0, none⟩ = some (.bool a0_0) := (blk_cell BK101.out 0).trans rfl; have hcz7_1 : w6.cell? ⟨gb101, 1, none⟩ = some (.bool a0_1) := (blk_cell BK101.out 1).trans rfl; have hcz7_2 : w6.cell? ⟨gb101, 2, none⟩ = some (.bool a0_2) := (blk_cell BK101.out 2).trans rfl; have hcz7_3 : w6.cell? ⟨gb101, 3, none⟩ = some (.bool a0_3) := (blk_cell BK101.out 3).trans rfl; have hcz7_4 : w6.cell? ⟨gb101, 4, none⟩ = some (.int .u32 a0_4) := (blk_cell BK101.out 4).trans rfl; have hcz7_5 : w6.cell? ⟨gb101, 5, none⟩ = some (.int .u32 a0_5) := (blk_cell BK101.out 5).trans rfl; have hcz7_6 : w6.cell? ⟨gb101, 6, none⟩ = some (.int .i64 a0_6) := (blk_cell BK101.out 6).trans rfl; have hfz7_0 := blk_frozen BK101.out 0; have hfz7_1 := blk_frozen BK101.out 1; have hfz7_2 := blk_frozen BK101.out 2; have hfz7_3 := blk_frozen BK101.out 3; have hfz7_4 := blk_frozen BK101.out 4; have hfz7_5 := blk_frozen BK101.out 5; have hfz7_6 := blk_frozen BK101.out 6) | ((with_reducible refine gate_callee (f := 41) rfl ?_); refine goesL_ (some 14) rfl rfl Tryd.func41 (by kernel_rfl) rfl #[.bool a0_1] rfl (by (try simp only [List.map_toArray, List.map_cons, List.map_nil]); first | done | rfl | (simp only [List.length_drop, List.length_take]; rfl)) ?_; (with_reducible refine (fcs_Size.calls a0_1 t102 _ ?side1 A3.out).mono ?_); (case side1 => repeat (first | exact (GF_below HGF.out HB.out) | (with_reducible refine GF_alloc ?_ _) | (with_reducible refine GF_drewN ?_ _) | (with_reducible refine GF_drew ?_))); rintro e w8 ⟨rfl, hb⟩; refine ⟨_, rfl, ?_⟩; have n0_ := Aside0.mk (blk_below (g := gb101) (o := .cells #[.bool a0_0, .bool a0_1, .bool a0_2, .bool a0_3, .int .u32 a0_4, .int .u32 a0_5, .int .i64 a0_6] 26 (0, 0)) (by (with_reducible repeat (first | refine blk_drewN ?_ _ | refine blk_drew ?_ | refine blk_alloc ?_ _)); exact BK101.out) hb); have n1_ := Aside0.mk (below_step (by repeat (first | (with_reducible first | exact HB.out | apply below_alloc | apply pw_below_drewN | apply below_drew1 | refine below_set ?_ GE101.out) | exact HB.out)) hb); clear BK101; clear HB; have BK101 := n0_; have HB := n1_; clear n0_ n1_; (try clear hb); (try clear hb2); (try clear hk); (try clear hi); have hcz9_0 : w8.cell? ⟨gb101, 0, none⟩ = some (.bool a0_0) := (blk_cell BK101.out 0).trans rfl; have hcz9_1 : w8.cell? ⟨gb101, 1, none⟩ = some (.bool a0_1) := (blk_cell BK101.out 1).trans rfl; have hcz9_2 : w8.cell? ⟨gb101, 2, none⟩ = some (.bool a0_2) := (blk_cell BK101.out 2).trans rfl; have hcz9_3 : w8.cell? ⟨gb101, 3, none⟩ = some (.bool a0_3) := (blk_cell BK101.out 3).trans rfl; have hcz9_4 : w8.cell? ⟨gb101, 4, none⟩ = some (.int .u32 a0_4) := (blk_cell BK101.out 4).trans rfl; have hcz9_5 : w8.cell? ⟨gb101, 5, none⟩ = some (.int .u32 a0_5) := (blk_cell BK101.out 5).trans rfl; have hcz9_6 : w8.cell? ⟨gb101, 6, none⟩ = some (.int .i64 a0_6) := (blk_cell BK101.out 6).trans rfl; have hfz9_0 := blk_frozen BK101.out 0; have hfz9_1 := blk_frozen BK101.out 1; have hfz9_2 := blk_frozen BK101.out 2; have hfz9_3 := blk_frozen BK101.out 3; have hfz9_4 := blk_frozen BK101.out 4; have hfz9_5 := blk_frozen BK101.out 5; have hfz9_6 := blk_frozen BK101.out 6) | ((with_reducible refine gate_callee (f := 20) rfl ?_); refine goesL_ (some 19) rfl rfl Tryd.func20 (by kernel_rfl) rfl #[.agg #[.bool a0_0, .bool a0_1, .bool a0_2, .bool a0_3, .int .u32 a0_4, .int .u32 a0_5, .int .i64 a0_6]] rfl (by (try simp only [List.map_toArray, List.map_cons, List.map_nil]); first | done | rfl | (simp only [List.length_drop, List.length_take]; rfl)) ?_; (with_reducible refine (config_Most.calls a0_0 a0_1 a0_2 a0_3 a0_4 a0_5 a0_6 t103 _ ?side1 A4.out).mono ?_); (case side1 => repeat (first | exact (GF_below HGF.out HB.out) | (with_reducible refine GF_alloc ?_ _) | (with_reducible refine GF_drewN ?_ _) | (with_reducible refine GF_drew ?_))); rintro e w10 ⟨rfl, hb⟩; refine ⟨_, rfl, ?_⟩; have n0_ := Aside0.mk (blk_below (g := gb101) (o := .cells #[.bool a0_0, .bool a0_1, .bool a0_2, .bool a0_3, .int .u32 a0_4, .int .u32 a0_5, .int .i64 a0_6] 26 (0, 0)) (by (with_reducible repeat (first | refine blk_drewN ?_ _ | refine blk_drew ?_ | refine blk_alloc ?_ _)); exact BK101.out) hb); have n1_ := Aside0.mk (below_step (by repeat (first | (with_reducible first | exact HB.out | apply below_alloc | apply pw_below_drewN | apply below_drew1 | refine below_set ?_ GE101.out) | exact HB.out)) hb); clear BK101; clear HB; have BK101 := n0_; have HB := n1_; clear n0_ n1_; (try clear hb); (try clear hb2); (try clear hk); (try clear hi)))
    go_ret3
    exact ⟨_, by first | rfl | (simp [errW_none, errW_some] <;> rfl) | (simp [*, errW_none, errW_some] <;> rfl), by first | exact Kd.R_nil _ _ _ _ _ | exact Kd.N_nil _ _ _ _ _ | exact Kd.V_nil _ _ _ _ _ | exact Kd.Q_nil _ _ _ _ _ | exact Kd.S_nil _ _ _ _ _, by repeat (first | (with_reducible first | exact HB.out | apply below_alloc | apply pw_below_drewN | apply below_drew1 | refine below_set ?_ GE101.out) | exact HB.out)⟩
  · rw [if_neg c5] at H
    have c5b0 : decide (t103 < (l1.length : Int)) = false := decide_eq_false c5
    clear c5
    by_cases c11 : (l1.length : Int) ≤ t102
    · rw [if_pos c11] at H
      have c11b0 : decide ((l1.length : Int) ≤ t102) = true := decide_eq_true c11
      clear c11
      simp only [Option.some.injEq, Prod.mk.injEq] at H
      obtain ⟨rfl, rfl, rfl⟩ := H
      go_enter Tryd.func49, Tryd.ntmps49
      go_wp2_with (first | ((with_reducible refine gate_dst (N := 2) rfl ?_); refine box_event ?hg (N := 2) ?hd (cs := #[.bool a0_0, .bool a0_1, .bool a0_2, .bool a0_3, .int .u32 a0_4, .int .u32 a0_5, .int .i64 a0_6]) (t := 26) ?hr ?_; (case hd => rfl); (case hg => rfl); (case hr => first | (go_simp; done) | (go_simp; rfl)); intro gb101 hg w12 hbox hb; have n0_ := Aside0.mk (below_step (by repeat (first | (with_reducible first | exact HB.out | apply below_alloc | apply pw_below_drewN | apply below_drew1) | exact HB.out)) hb); have n1_ := Aside0.mk (hbox); have n2_ := Aside0.mk ((by rw [hg]; exact (below_size (by repeat (first | (with_reducible first | exact HB.out | apply below_alloc | apply pw_below_drewN | apply below_drew1) | exact HB.out))) : w.heap.size ≤ gb101)); have n3_ := Aside0.mk ((by rw [hg]; exact (below_size (by repeat (first | (with_reducible first | exact HB.out | apply below_alloc | apply pw_below_drewN | apply below_drew1) | exact HB.out))) : w.heap.size ≤ gb101)); clear HB; have HB := n0_; have BK101 := n1_; have GW101 := n2_; have GE101 := n3_; clear n0_ n1_ n2_ n3_; clear hb hbox hg; have hcz13_0 : w12.cell? ⟨gb101, 0, none⟩ = some (.bool a0_0) := (blk_cell BK101.out 0).trans rfl; have hcz13_1 : w12.cell? ⟨gb101, 1, none⟩ = some (.bool a0_1) := (blk_cell BK101.out 1).trans rfl; have hcz13_2 : w12.cell? ⟨gb101, 2, none⟩ = some (.bool a0_2) := (blk_cell BK101.out 2).trans rfl; have hcz13_3 : w12.cell? ⟨gb101, 3, none⟩ = some (.bool a0_3) := (blk_cell BK101.out 3).trans rfl; have hcz13_4 : w12.cell? ⟨gb101, 4, none⟩ = some (.int .u32 a0_4) := (blk_cell BK101.out 4).trans rfl; have hcz13_5 : w12.cell? ⟨gb101, 5, none⟩ = some (.int .u32 a0_5) := (blk_cell BK101.out 5).trans rfl; have hcz13_6 : w12.cell? ⟨gb101, 6, none⟩ = some (.int .i64 a0_6) := (blk_cell BK101.out 6).trans rfl; have hfz13_0 := blk_frozen BK101.out 0; have hfz13_1 := blk_frozen BK101.out 1; have hfz13_2 := blk_frozen BK101.out 2; have hfz13_3 := blk_frozen BK101.out 3; have hfz13_4 := blk_frozen BK101.out 4; have hfz13_5 := blk_frozen BK101.out 5; have hfz13_6 := blk_frozen BK101.out 6) | ((with_reducible refine gate_callee (f := 41) rfl ?_); refine goesL_ (some 14) rfl rfl Tryd.func41 (by kernel_rfl) rfl #[.bool a0_1] rfl (by (try simp only [List.map_toArray, List.map_cons, List.map_nil]); first | done | rfl | (simp only [List.length_drop, List.length_take]; rfl)) ?_; (with_reducible refine (fcs_Size.calls a0_1 t102 _ ?side1 A3.out).mono ?_); (case side1 => repeat (first | exact (GF_below HGF.out HB.out) | (with_reducible refine GF_alloc ?_ _) | (with_reducible refine GF_drewN ?_ _) | (with_reducible refine GF_drew ?_))); rintro e w14 ⟨rfl, hb⟩; refine ⟨_, rfl, ?_⟩; have n0_ := Aside0.mk (blk_below (g := gb101) (o := .cells #[.bool a0_0, .bool a0_1, .bool a0_2, .bool a0_3, .int .u32 a0_4, .int .u32 a0_5, .int .i64 a0_6] 26 (0, 0)) (by (with_reducible repeat (first | refine blk_drewN ?_ _ | refine blk_drew ?_ | refine blk_alloc ?_ _)); exact BK101.out) hb); have n1_ := Aside0.mk (below_step (by repeat (first | (with_reducible first | exact HB.out | apply below_alloc | apply pw_below_drewN | apply below_drew1 | refine below_set ?_ GE101.out) | exact HB.out)) hb); clear BK101; clear HB; have BK101 := n0_; have HB := n1_; clear n0_ n1_; (try clear hb); (try clear hb2); (try clear hk); (try clear hi); have hcz15_0 : w14.cell? ⟨gb101, 0, none⟩ = some (.bool a0_0) := (blk_cell BK101.out 0).trans rfl; have hcz15_1 : w14.cell? ⟨gb101, 1, none⟩ = some (.bool a0_1) := (blk_cell BK101.out 1).trans rfl; have hcz15_2 : w14.cell? ⟨gb101, 2, none⟩ = some (.bool a0_2) := (blk_cell BK101.out 2).trans rfl; have hcz15_3 : w14.cell? ⟨gb101, 3, none⟩ = some (.bool a0_3) := (blk_cell BK101.out 3).trans rfl; have hcz15_4 : w14.cell? ⟨gb101, 4, none⟩ = some (.int .u32 a0_4) := (blk_cell BK101.out 4).trans rfl; have hcz15_5 : w14.cell? ⟨gb101, 5, none⟩ = some (.int .u32 a0_5) := (blk_cell BK101.out 5).trans rfl; have hcz15_6 : w14.cell? ⟨gb101, 6, none⟩ = some (.int .i64 a0_6) := (blk_cell BK101.out 6).trans rfl; have hfz15_0 := blk_frozen BK101.out 0; have hfz15_1 := blk_frozen BK101.out 1; have hfz15_2 := blk_frozen BK101.out 2; have hfz15_3 := blk_frozen BK101.out 3; have hfz15_4 := blk_frozen BK101.out 4; have hfz15_5 := blk_frozen BK101.out 5; have hfz15_6 := blk_frozen BK101.out 6) | ((with_reducible refine gate_callee (f := 20) rfl ?_); refine goesL_ (some 19) rfl rfl Tryd.func20 (by kernel_rfl) rfl #[.agg #[.bool a0_0, .bool a0_1, .bool a0_2, .bool a0_3, .int .u32 a0_4, .int .u32 a0_5, .int .i64 a0_6]] rfl (by (try simp only [List.map_toArray, List.map_cons, List.map_nil]); first | done | rfl | (simp only [List.length_drop, List.length_take]; rfl)) ?_; (with_reducible refine (config_Most.calls a0_0 a0_1 a0_2 a0_3 a0_4 a0_5 a0_6 t103 _ ?side1 A4.out).mono ?_); (case side1 => repeat (first | exact (GF_below HGF.out HB.out) | (with_reducible refine GF_alloc ?_ _) | (with_reducible refine GF_drewN ?_ _) | (with_reducible refine GF_drew ?_))); rintro e w16 ⟨rfl, hb⟩; refine ⟨_, rfl, ?_⟩; have n0_ := Aside0.mk (blk_below (g := gb101) (o := .cells #[.bool a0_0, .bool a0_1, .bool a0_2, .bool a0_3, .int .u32 a0_4, .int .u32 a0_5, .int .i64 a0_6] 26 (0, 0)) (by (with_reducible repeat (first | refine blk_drewN ?_ _ | refine blk_drew ?_ | refine blk_alloc ?_ _)); exact BK101.out) hb); have n1_ := Aside0.mk (below_step (by repeat (first | (with_reducible first | exact HB.out | apply below_alloc | apply pw_below_drewN | apply below_drew1 | refine below_set ?_ GE101.out) | exact HB.out)) hb); clear BK101; clear HB; have BK101 := n0_; have HB := n1_; clear n0_ n1_; (try clear hb); (try clear hb2); (try clear hk); (try clear hi)))
      go_ret3
      exact ⟨_, by first | rfl | (simp [errW_none, errW_some] <;> rfl) | (simp [*, errW_none, errW_some] <;> rfl), by first | exact Kd.R_nil _ _ _ _ _ | exact Kd.N_nil _ _ _ _ _ | exact Kd.V_nil _ _ _ _ _ | exact Kd.Q_nil _ _ _ _ _ | exact Kd.S_nil _ _ _ _ _, by repeat (first | (with_reducible first | exact HB.out | apply below_alloc | apply pw_below_drewN | apply below_drew1 | refine below_set ?_ GE101.out) | exact HB.out)⟩
    · rw [if_neg c11] at H
      have c11b0 : decide ((l1.length : Int) ≤ t102) = false := decide_eq_false c11
      clear c11
      replace H := Option.bind_eq_some_iff.mp H
      obtain ⟨t104, A170, H⟩ := H
      replace H : (if t104 = true then (if 0 ≤ (wrap64 ((l1.length : Int) - t102)) then (if (wrap64 ((l1.length : Int) - t102)) ≤ (l1.length : Int) then ((head_Get.f k a0_0 a0_1 a0_2 a0_3 a0_4 a0_5 a0_6 (l1.take ((wrap64 ((l1.length : Int) - t102)) : Int).toNat)).bind fun bt106 => (if bt106.2.2 = 0 then (if 0 ≤ bt106.2.1 then (if bt106.2.1 ≤ ((l1.take ((wrap64 ((l1.length : Int) - t102)) : Int).toNat).length : Int) then ((slices_Clone_byte_byte.f ((l1.take ((wrap64 ((l1.length : Int) - t102)) : Int).toNat).drop (bt106.2.1 : Int).toNat)).bind fun t110 => (if (t110.length : Int) > a0_6 then (some (0, ([] : List Int), 3)) else (some (bt106.1, t110, 0)))) else (none)) else (none)) else (some (0, ([] : List Int), bt106.2.2)))) else (none)) else (none)) else (some (0, ([] : List Int), 6))) = some (r1, r2, r3) := H
      have A17 := Aside0.mk A170
      clear A170
      by_cases c18 : t104 = true
      · subst c18
        have H1 : (if 0 ≤ (wrap64 ((l1.length : Int) - t102)) then (if (wrap64 ((l1.length : Int) - t102)) ≤ (l1.length : Int) then ((head_Get.f k a0_0 a0_1 a0_2 a0_3 a0_4 a0_5 a0_6 (l1.take ((wrap64 ((l1.length : Int) - t102)) : Int).toNat)).bind fun bt106 => (if bt106.2.2 = 0 then (if 0 ≤ bt106.2.1 then (if bt106.2.1 ≤ ((l1.take ((wrap64 ((l1.length : Int) - t102)) : Int).toNat).length : Int) then ((slices_Clone_byte_byte.f ((l1.take ((wrap64 ((l1.length : Int) - t102)) : Int).toNat).drop (bt106.2.1 : Int).toNat)).bind fun t110 => (if (t110.length : Int) > a0_6 then (some (0, ([] : List Int), 3)) else (some (bt106.1, t110, 0)))) else (none)) else (none)) else (some (0, ([] : List Int), bt106.2.2)))) else (none)) else (none)) = some (r1, r2, r3) := by rw [if_pos rfl] at H; exact H
        clear H
        have H := H1
        clear H1
        obtain ⟨ji19, hji19⟩ : ∃ j_ : Int, (wrap64 ((l1.length : Int) - t102)) = j_ := ⟨_, rfl⟩
        replace H : (if 0 ≤ (ji19) then (if (ji19) ≤ (l1.length : Int) then ((head_Get.f k a0_0 a0_1 a0_2 a0_3 a0_4 a0_5 a0_6 (l1.take ((ji19) : Int).toNat)).bind fun bt106 => (if bt106.2.2 = 0 then (if 0 ≤ bt106.2.1 then (if bt106.2.1 ≤ ((l1.take ((ji19) : Int).toNat).length : Int) then ((slices_Clone_byte_byte.f ((l1.take ((ji19) : Int).toNat).drop (bt106.2.1 : Int).toNat)).bind fun t110 => (if (t110.length : Int) > a0_6 then (some (0, ([] : List Int), 3)) else (some (bt106.1, t110, 0)))) else (none)) else (none)) else (some (0, ([] : List Int), bt106.2.2)))) else (none)) else (none)) = some (r1, r2, r3) := by first | (rw [hji19] at H; exact H) | (simp only [hji19] at H ⊢; exact H)
        (try rw [hji19] at A3)
        (try rw [hji19] at A4)
        (try rw [hji19] at A17)
        have hji19w : (IntKind.i64.wrap ((l1.length : Int) - t102)) = ji19 := (i64_w _).trans hji19
        by_cases c20 : 0 ≤ (ji19)
        · rw [if_pos c20] at H
          have c20b0 := eq_true c20
          have c20b1 : decide (0 ≤ (ji19)) = true := decide_eq_true c20
          clear c20
          by_cases c21 : (ji19) ≤ (l1.length : Int)
          · rw [if_pos c21] at H
            have c21b0 := eq_true c21
            have c21b1 : decide ((ji19) ≤ (l1.length : Int)) = true := decide_eq_true c21
            clear c21
            replace H := Option.bind_eq_some_iff.mp H
            obtain ⟨⟨t106, t107, t108⟩, A220, H⟩ := H
            replace H : (if t108 = 0 then (if 0 ≤ t107 then (if t107 ≤ ((l1.take ((ji19) : Int).toNat).length : Int) then ((slices_Clone_byte_byte.f ((l1.take ((ji19) : Int).toNat).drop (t107 : Int).toNat)).bind fun t110 => (if (t110.length : Int) > a0_6 then (some (0, ([] : List Int), 3)) else (some (t106, t110, 0)))) else (none)) else (none)) else (some (0, ([] : List Int), t108))) = some (r1, r2, r3) := H
            have A22 := Aside0.mk A220
            clear A220
            by_cases c23 : t108 = 0
            · rw [if_pos c23] at H
              have c23b0 : (t108 == 0) = true := beq_iff_eq.mpr c23
              have c23b1 : (t108 != 0) = false := bne_eq_false_iff_eq.mpr c23
              clear c23
              by_cases c24 : 0 ≤ t107
              · rw [if_pos c24] at H
                have c24b0 := eq_true c24
                have c24b1 : decide (0 ≤ t107) = true := decide_eq_true c24
                clear c24
                by_cases c25 : t107 ≤ ((l1.take ((ji19) : Int).toNat).length : Int)
                · rw [if_pos c25] at H
                  have c25b0 := eq_true c25
                  have c25b1 : decide (t107 ≤ ((l1.take ((ji19) : Int).toNat).length : Int)) = true := decide_eq_true c25
                  clear c25
                  obtain ⟨cm1, hcm1⟩ : ∃ m_ : List Int, m_ = (l1.take ((ji19) : Int).toNat) := ⟨_, rfl⟩
                  rw [← hcm1] at H c25b0 c25b1 A22
                  have HCM1 := Aside0.mk hcm1
                  clear hcm1
                  obtain ⟨cm2, hcm2⟩ : ∃ m_ : List Int, m_ = (cm1.drop (t107 : Int).toNat) := ⟨_, rfl⟩
                  rw [← hcm2] at H
                  have HCM2 := Aside0.mk hcm2
                  clear hcm2
                  replace H := Option.bind_eq_some_iff.mp H
                  obtain ⟨t110, A260, H⟩ := H
                  replace H : (if (t110.length : Int) > a0_6 then (some (0, ([] : List Int), 3)) else (some (t106, t110, 0))) = some (r1, r2, r3) := H
                  have A26 := Aside0.mk A260
                  clear A260
                  by_cases c27 : (t110.length : Int) > a0_6
                  · rw [if_pos c27] at H
                    have c27b0 : decide (a0_6 < (t110.length : Int)) = true := decide_eq_true c27
                    clear c27
                    simp only [Option.some.injEq, Prod.mk.injEq] at H
                    obtain ⟨rfl, rfl, rfl⟩ := H
                    go_enter Tryd.func49, Tryd.ntmps49
                    go_wp2_with (first | ((with_reducible refine gate_dst (N := 2) rfl ?_); refine box_event ?hg (N := 2) ?hd (cs := #[.bool a0_0, .bool a0_1, .bool a0_2, .bool a0_3, .int .u32 a0_4, .int .u32 a0_5, .int .i64 a0_6]) (t := 26) ?hr ?_; (case hd => rfl); (case hg => rfl); (case hr => first | (go_simp; done) | (go_simp; rfl)); intro gb101 hg w28 hbox hb; have n0_ := Aside0.mk (below_step (by repeat (first | (with_reducible first | exact HB.out | apply below_alloc | apply pw_below_drewN | apply below_drew1) | exact HB.out)) hb); have n1_ := Aside0.mk (hbox); have n2_ := Aside0.mk ((by rw [hg]; exact (below_size (by repeat (first | (with_reducible first | exact HB.out | apply below_alloc | apply pw_below_drewN | apply below_drew1) | exact HB.out))) : w.heap.size ≤ gb101)); have n3_ := Aside0.mk ((by rw [hg]; exact (below_size (by repeat (first | (with_reducible first | exact HB.out | apply below_alloc | apply pw_below_drewN | apply below_drew1) | exact HB.out))) : w.heap.size ≤ gb101)); clear HB; have HB := n0_; have BK101 := n1_; have GW101 := n2_; have GE101 := n3_; clear n0_ n1_ n2_ n3_; clear hb hbox hg; have hcz29_0 : w28.cell? ⟨gb101, 0, none⟩ = some (.bool a0_0) := (blk_cell BK101.out 0).trans rfl; have hcz29_1 : w28.cell? ⟨gb101, 1, none⟩ = some (.bool a0_1) := (blk_cell BK101.out 1).trans rfl; have hcz29_2 : w28.cell? ⟨gb101, 2, none⟩ = some (.bool a0_2) := (blk_cell BK101.out 2).trans rfl; have hcz29_3 : w28.cell? ⟨gb101, 3, none⟩ = some (.bool a0_3) := (blk_cell BK101.out 3).trans rfl; have hcz29_4 : w28.cell? ⟨gb101, 4, none⟩ = some (.int .u32 a0_4) := (blk_cell BK101.out 4).trans rfl; have hcz29_5 : w28.cell? ⟨gb101, 5, none⟩ = some (.int .u32 a0_5) := (blk_cell BK101.out 5).trans rfl; have hcz29_6 : w28.cell? ⟨gb101, 6, none⟩ = some (.int .i64 a0_6) := (blk_cell BK101.out 6).trans rfl; have hfz29_0 := blk_frozen BK101.out 0; have hfz29_1 := blk_frozen BK101.out 1; have hfz29_2 := blk_frozen BK101.out 2; have hfz29_3 := blk_frozen BK101.out 3; have hfz29_4 := blk_frozen BK101.out 4; have hfz29_5 := blk_frozen BK101.out 5; have hfz29_6 := blk_frozen BK101.out 6) | ((with_reducible refine gate_callee (f := 41) rfl ?_); refine goesL_ (some 14) rfl rfl Tryd.func41 (by kernel_rfl) rfl #[.bool a0_1] rfl (by (try simp only [List.map_toArray, List.map_cons, List.map_nil]); first | done | rfl | (simp only [List.length_drop, List.length_take]; rfl)) ?_; (with_reducible refine (fcs_Size.calls a0_1 t102 _ ?side1 A3.out).mono ?_); (case side1 => repeat (first | exact (GF_below HGF.out HB.out) | (with_reducible refine GF_alloc ?_ _) | (with_reducible refine GF_drewN ?_ _) | (with_reducible refine GF_drew ?_))); rintro e w30 ⟨rfl, hb⟩; refine ⟨_, rfl, ?_⟩; have n0_ := Aside0.mk (blk_below (g := gb101) (o := .cells #[.bool a0_0, .bool a0_1, .bool a0_2, .bool a0_3, .int .u32 a0_4, .int .u32 a0_5, .int .i64 a0_6] 26 (0, 0)) (by (with_reducible repeat (first | refine blk_drewN ?_ _ | refine blk_drew ?_ | refine blk_alloc ?_ _)); exact BK101.out) hb); have n1_ := Aside0.mk (below_step (by repeat (first | (with_reducible first | exact HB.out | apply below_alloc | apply pw_below_drewN | apply below_drew1 | refine below_set ?_ GE101.out) | exact HB.out)) hb); clear BK101; clear HB; have BK101 := n0_; have HB := n1_; clear n0_ n1_; (try clear hb); (try clear hb2); (try clear hk); (try clear hi); have hcz31_0 : w30.cell? ⟨gb101, 0, none⟩ = some (.bool a0_0) := (blk_cell BK101.out 0).trans rfl; have hcz31_1 : w30.cell? ⟨gb101, 1, none⟩ = some (.bool a0_1) := (blk_cell BK101.out 1).trans rfl; have hcz31_2 : w30.cell? ⟨gb101, 2, none⟩ = some (.bool a0_2) := (blk_cell BK101.out 2).trans rfl; have hcz31_3 : w30.cell? ⟨gb101, 3, none⟩ = some (.bool a0_3) := (blk_cell BK101.out 3).trans rfl; have hcz31_4 : w30.cell? ⟨gb101, 4, none⟩ = some (.int .u32 a0_4) := (blk_cell BK101.out 4).trans rfl; have hcz31_5 : w30.cell? ⟨gb101, 5, none⟩ = some (.int .u32 a0_5) := (blk_cell BK101.out 5).trans rfl; have hcz31_6 : w30.cell? ⟨gb101, 6, none⟩ = some (.int .i64 a0_6) := (blk_cell BK101.out 6).trans rfl; have hfz31_0 := blk_frozen BK101.out 0; have hfz31_1 := blk_frozen BK101.out 1; have hfz31_2 := blk_frozen BK101.out 2; have hfz31_3 := blk_frozen BK101.out 3; have hfz31_4 := blk_frozen BK101.out 4; have hfz31_5 := blk_frozen BK101.out 5; have hfz31_6 := blk_frozen BK101.out 6) | ((with_reducible refine gate_callee (f := 20) rfl ?_); refine goesL_ (some 19) rfl rfl Tryd.func20 (by kernel_rfl) rfl #[.agg #[.bool a0_0, .bool a0_1, .bool a0_2, .bool a0_3, .int .u32 a0_4, .int .u32 a0_5, .int .i64 a0_6]] rfl (by (try simp only [List.map_toArray, List.map_cons, List.map_nil]); first | done | rfl | (simp only [List.length_drop, List.length_take]; rfl)) ?_; (with_reducible refine (config_Most.calls a0_0 a0_1 a0_2 a0_3 a0_4 a0_5 a0_6 t103 _ ?side1 A4.out).mono ?_); (case side1 => repeat (first | exact (GF_below HGF.out HB.out) | (with_reducible refine GF_alloc ?_ _) | (with_reducible refine GF_drewN ?_ _) | (with_reducible refine GF_drew ?_))); rintro e w32 ⟨rfl, hb⟩; refine ⟨_, rfl, ?_⟩; have n0_ := Aside0.mk (blk_below (g := gb101) (o := .cells #[.bool a0_0, .bool a0_1, .bool a0_2, .bool a0_3, .int .u32 a0_4, .int .u32 a0_5, .int .i64 a0_6] 26 (0, 0)) (by (with_reducible repeat (first | refine blk_drewN ?_ _ | refine blk_drew ?_ | refine blk_alloc ?_ _)); exact BK101.out) hb); have n1_ := Aside0.mk (below_step (by repeat (first | (with_reducible first | exact HB.out | apply below_alloc | apply pw_below_drewN | apply below_drew1 | refine below_set ?_ GE101.out) | exact HB.out)) hb); clear BK101; clear HB; have BK101 := n0_; have HB := n1_; clear n0_ n1_; (try clear hb); (try clear hb2); (try clear hk); (try clear hi); have hcz33_0 : w32.cell? ⟨gb101, 0, none⟩ = some (.bool a0_0) := (blk_cell BK101.out 0).trans rfl; have hcz33_1 : w32.cell? ⟨gb101, 1, none⟩ = some (.bool a0_1) := (blk_cell BK101.out 1).trans rfl; have hcz33_2 : w32.cell? ⟨gb101, 2, none⟩ = some (.bool a0_2) := (blk_cell BK101.out 2).trans rfl; have hcz33_3 : w32.cell? ⟨gb101, 3, none⟩ = some (.bool a0_3) := (blk_cell BK101.out 3).trans rfl; have hcz33_4 : w32.cell? ⟨gb101, 4, none⟩ = some (.int .u32 a0_4) := (blk_cell BK101.out 4).trans rfl; have hcz33_5 : w32.cell? ⟨gb101, 5, none⟩ = some (.int .u32 a0_5) := (blk_cell BK101.out 5).trans rfl; have hcz33_6 : w32.cell? ⟨gb101, 6, none⟩ = some (.int .i64 a0_6) := (blk_cell BK101.out 6).trans rfl; have hfz33_0 := blk_frozen BK101.out 0; have hfz33_1 := blk_frozen BK101.out 1; have hfz33_2 := blk_frozen BK101.out 2; have hfz33_3 := blk_frozen BK101.out 3; have hfz33_4 := blk_frozen BK101.out 4; have hfz33_5 := blk_frozen BK101.out 5; have hfz33_6 := blk_frozen BK101.out 6) | ((with_reducible refine gate_callee (f := 42) rfl ?_); refine goesL_ (some 30) rfl rfl Tryd.func42 (by kernel_rfl) rfl #[.bool a0_1, .slice A1 l1.length c1] rfl (by (try simp only [List.map_toArray, List.map_cons, List.map_nil]); first | done | rfl | (simp only [List.length_drop, List.length_take]; rfl)) ?_; (with_reducible refine (fcs_Good.calls a0_1 _ _ l1 true _ ?side1 ?side2 ?side3 A17.out).mono ?_); (case side1 => repeat (first | exact (Kd.C_below HR1.out HB.out) | (with_reducible refine Kd.C_alloc ?_ _) | (with_reducible refine Kd.C_drewN ?_ _) | (with_reducible refine Kd.C_drew ?_))); (case side2 => exact HC1.out); (case side3 => repeat (first | exact (GF_below HGF.out HB.out) | (with_reducible refine GF_alloc ?_ _) | (with_reducible refine GF_drewN ?_ _) | (with_reducible refine GF_drew ?_))); rintro e w34 ⟨rfl, hb⟩; refine ⟨_, rfl, ?_⟩; have n0_ := Aside0.mk (blk_below (g := gb101) (o := .cells #[.bool a0_0, .bool a0_1, .bool a0_2, .bool a0_3, .int .u32 a0_4, .int .u32 a0_5, .int .i64 a0_6] 26 (0, 0)) (by (with_reducible repeat (first | refine blk_drewN ?_ _ | refine blk_drew ?_ | refine blk_alloc ?_ _)); exact BK101.out) hb); have n1_ := Aside0.mk (below_step (by repeat (first | (with_reducible first | exact HB.out | apply below_alloc | apply pw_below_drewN | apply below_drew1 | refine below_set ?_ GE101.out) | exact HB.out)) hb); clear BK101; clear HB; have BK101 := n0_; have HB := n1_; clear n0_ n1_; (try clear hb); (try clear hb2); (try clear hk); (try clear hi); obtain ⟨i035, hi035, _, hsz35, _⟩ := info_parts info5; obtain ⟨hcut35, hA35, hC35⟩ := print_take_of (P := Tryd.prog) (Value.int .u8) 0 35 5 .i64 Tryd.underlying35 hi035 hsz35 A1 c1 l1 (ji19) (of_decide_eq_true (by first | (with_reducible assumption) | assumption)) (of_decide_eq_true (by first | (with_reducible assumption) | assumption)) HC1.out; rw [← HCM1.out] at hcut35 hA35 hC35; have HR105 := Aside0.mk (Kd.C_of_reads (h1 := fun _ => rfl) (hA35 _ (Kd.reads_of_C HR1.out))); have HC105 := Aside0.mk hC35; clear hA35 hC35 hi035 hsz35; have hcz36_0 : w34.cell? ⟨gb101, 0, none⟩ = some (.bool a0_0) := (blk_cell BK101.out 0).trans rfl; have hcz36_1 : w34.cell? ⟨gb101, 1, none⟩ = some (.bool a0_1) := (blk_cell BK101.out 1).trans rfl; have hcz36_2 : w34.cell? ⟨gb101, 2, none⟩ = some (.bool a0_2) := (blk_cell BK101.out 2).trans rfl; have hcz36_3 : w34.cell? ⟨gb101, 3, none⟩ = some (.bool a0_3) := (blk_cell BK101.out 3).trans rfl; have hcz36_4 : w34.cell? ⟨gb101, 4, none⟩ = some (.int .u32 a0_4) := (blk_cell BK101.out 4).trans rfl; have hcz36_5 : w34.cell? ⟨gb101, 5, none⟩ = some (.int .u32 a0_5) := (blk_cell BK101.out 5).trans rfl; have hcz36_6 : w34.cell? ⟨gb101, 6, none⟩ = some (.int .i64 a0_6) := (blk_cell BK101.out 6).trans rfl; have hfz36_0 := blk_frozen BK101.out 0; have hfz36_1 := blk_frozen BK101.out 1; have hfz36_2 := blk_frozen BK101.out 2; have hfz36_3 := blk_frozen BK101.out 3; have hfz36_4 := blk_frozen BK101.out 4; have hfz36_5 := blk_frozen BK101.out 5; have hfz36_6 := blk_frozen BK101.out 6) | ((with_reducible refine gate_callee (f := 29) rfl ?_); refine goesL_ (some 41) rfl rfl Tryd.func29 (by kernel_rfl) rfl #[.agg #[.bool a0_0, .bool a0_1, .bool a0_2, .bool a0_3, .int .u32 a0_4, .int .u32 a0_5, .int .i64 a0_6], .slice A1 cm1.length c1] rfl (by (try simp only [List.map_toArray, List.map_cons, List.map_nil]); first | done | (rw [show cm1.length = (ji19).toNat from (by rw [List.length_take]; have h_ : ((ji19) : Int) ≤ (l1.length : Int) := of_decide_eq_true (by first | (with_reducible assumption) | assumption); omega)] <;> rfl) | (simp only [hji19]; rfl) | rfl | (simp only [List.length_drop, List.length_take]; rfl)) ?_; (with_reducible refine (head_Get.calls k a0_0 a0_1 a0_2 a0_3 a0_4 a0_5 a0_6 _ _ cm1 t106 t107 t108 _ ?side1 ?side2 ?side3 A22.out).mono ?_); (case side1 => repeat (first | exact (Kd.C_below HR105.out HB.out) | (with_reducible refine Kd.C_alloc ?_ _) | (with_reducible refine Kd.C_drewN ?_ _) | (with_reducible refine Kd.C_drew ?_))); (case side2 => exact HC105.out); (case side3 => repeat (first | exact (GH_below HGH.out HB.out) | (with_reducible refine GH_alloc ?_ _) | (with_reducible refine GH_drewN ?_ _) | (with_reducible refine GH_drew ?_))); rintro e w37 ⟨rfl, hb⟩; refine ⟨_, rfl, ?_⟩; have n0_ := Aside0.mk (blk_below (g := gb101) (o := .cells #[.bool a0_0, .bool a0_1, .bool a0_2, .bool a0_3, .int .u32 a0_4, .int .u32 a0_5, .int .i64 a0_6] 26 (0, 0)) (by (with_reducible repeat (first | refine blk_drewN ?_ _ | refine blk_drew ?_ | refine blk_alloc ?_ _)); exact BK101.out) hb); have n1_ := Aside0.mk (below_step (by repeat (first | (with_reducible first | exact HB.out | apply below_alloc | apply pw_below_drewN | apply below_drew1 | refine below_set ?_ GE101.out) | exact HB.out)) hb); clear BK101; clear HB; have BK101 := n0_; have HB := n1_; clear n0_ n1_; (try clear hb); (try clear hb2); (try clear hk); (try clear hi); obtain ⟨i038, hi038, _, hsz38, _⟩ := info_parts info5; obtain ⟨A38, hcut38, hA38, hC38⟩ := print_drop_of (P := Tryd.prog) (Value.int .u8) 0 35 5 .i64 Tryd.underlying35 hi038 hsz38 A1 c1 cm1 t107 (of_decide_eq_true (by first | (with_reducible assumption) | assumption)) (of_decide_eq_true (by first | (with_reducible assumption) | assumption)) HC105.out; rw [← HCM2.out] at hcut38 hA38 hC38; have HR109 := Aside0.mk (Kd.C_of_reads (h1 := fun _ => rfl) (hA38 _ (Kd.reads_of_C HR105.out))); have HC109 := Aside0.mk hC38; clear hA38 hC38 hi038 hsz38) | ((with_reducible refine gate_callee (f := 71) rfl ?_); refine goesL_ (some 51) rfl rfl Tryd.func71 (by kernel_rfl) rfl #[.slice A38 cm2.length (c1 - t107.toNat)] rfl (by (try simp only [List.map_toArray, List.map_cons, List.map_nil]); first | done | (rw [show cm2.length = (cm1.length - t107.toNat) from List.length_drop] <;> rfl) | (simp only [hji19]; rfl) | rfl | (simp only [List.length_drop, List.length_take]; rfl)) ?_; (with_reducible refine (slices_Clone_byte_byte.calls _ _ cm2 t110 _ ?side1 ?side2 A26.out).mono ?_); (case side1 => repeat (first | exact (Kd.C_below HR109.out HB.out) | (with_reducible refine Kd.C_alloc ?_ _) | (with_reducible refine Kd.C_drewN ?_ _) | (with_reducible refine Kd.C_drew ?_))); (case side2 => exact HC109.out); rintro e w39 ⟨v111, rfl, ho0, hb⟩; refine ⟨_, rfl, ?_⟩; have n0_ := Aside0.mk (Kd.R_lower ho0 (below_size (by repeat (first | (with_reducible first | exact HB.out | apply below_alloc | apply pw_below_drewN | apply below_drew1 | refine below_set ?_ GE101.out) | exact HB.out)))); have n1_ := Aside0.mk (blk_below (g := gb101) (o := .cells #[.bool a0_0, .bool a0_1, .bool a0_2, .bool a0_3, .int .u32 a0_4, .int .u32 a0_5, .int .i64 a0_6] 26 (0, 0)) (by (with_reducible repeat (first | refine blk_drewN ?_ _ | refine blk_drew ?_ | refine blk_alloc ?_ _)); exact BK101.out) hb); have n2_ := Aside0.mk (below_step (by repeat (first | (with_reducible first | exact HB.out | apply below_alloc | apply pw_below_drewN | apply below_drew1 | refine below_set ?_ GE101.out) | exact HB.out)) hb); clear BK101; clear HB; have HO112 := n0_; have BK101 := n1_; have HB := n2_; clear n0_ n1_ n2_; (try clear hb); (try clear hb2); (try clear hk); (try clear hi); (try clear ho0); obtain ⟨Ao40, co40, eo40⟩ := Kd.R_slice HO112.out; subst eo40; have hcz41_0 : w39.cell? ⟨gb101, 0, none⟩ = some (.bool a0_0) := (blk_cell BK101.out 0).trans rfl; have hcz41_1 : w39.cell? ⟨gb101, 1, none⟩ = some (.bool a0_1) := (blk_cell BK101.out 1).trans rfl; have hcz41_2 : w39.cell? ⟨gb101, 2, none⟩ = some (.bool a0_2) := (blk_cell BK101.out 2).trans rfl; have hcz41_3 : w39.cell? ⟨gb101, 3, none⟩ = some (.bool a0_3) := (blk_cell BK101.out 3).trans rfl; have hcz41_4 : w39.cell? ⟨gb101, 4, none⟩ = some (.int .u32 a0_4) := (blk_cell BK101.out 4).trans rfl; have hcz41_5 : w39.cell? ⟨gb101, 5, none⟩ = some (.int .u32 a0_5) := (blk_cell BK101.out 5).trans rfl; have hcz41_6 : w39.cell? ⟨gb101, 6, none⟩ = some (.int .i64 a0_6) := (blk_cell BK101.out 6).trans rfl; have hfz41_0 := blk_frozen BK101.out 0; have hfz41_1 := blk_frozen BK101.out 1; have hfz41_2 := blk_frozen BK101.out 2; have hfz41_3 := blk_frozen BK101.out 3; have hfz41_4 := blk_frozen BK101.out 4; have hfz41_5 := blk_frozen BK101.out 5; have hfz41_6 := blk_frozen BK101.out 6))
                    go_ret3
                    exact ⟨_, by first | rfl | (simp [errW_none, errW_some] <;> rfl) | (simp only [← hji19]; first | rfl | (simp [errW_none, errW_some] <;> rfl)) | (simp [*, errW_none, errW_some] <;> rfl), by first | exact Kd.R_nil _ _ _ _ _ | exact Kd.N_nil _ _ _ _ _ | exact Kd.V_nil _ _ _ _ _ | exact Kd.Q_nil _ _ _ _ _ | exact Kd.S_nil _ _ _ _ _, by repeat (first | (with_reducible first | exact HB.out | apply below_alloc | apply pw_below_drewN | apply below_drew1 | refine below_set ?_ GE101.out) | exact HB.out)⟩
                  · rw [if_neg c27] at H
                    have c27b0 : decide (a0_6 < (t110.length : Int)) = false := decide_eq_false c27
                    clear c27
                    simp only [Option.some.injEq, Prod.mk.injEq] at H
                    obtain ⟨rfl, rfl, rfl⟩ := H
                    go_enter Tryd.func49, Tryd.ntmps49
                    go_wp2_with (first | ((with_reducible refine gate_dst (N := 2) rfl ?_); refine box_event ?hg (N := 2) ?hd (cs := #[.bool a0_0, .bool a0_1, .bool a0_2, .bool a0_3, .int .u32 a0_4, .int .u32 a0_5, .int .i64 a0_6]) (t := 26) ?hr ?_; (case hd => rfl); (case hg => rfl); (case hr => first | (go_simp; done) | (go_simp; rfl)); intro gb101 hg w42 hbox hb; have n0_ := Aside0.mk (below_step (by repeat (first | (with_reducible first | exact HB.out | apply below_alloc | apply pw_below_drewN | apply below_drew1) | exact HB.out)) hb); have n1_ := Aside0.mk (hbox); have n2_ := Aside0.mk ((by rw [hg]; exact (below_size (by repeat (first | (with_reducible first | exact HB.out | apply below_alloc | apply pw_below_drewN | apply below_drew1) | exact HB.out))) : w.heap.size ≤ gb101)); have n3_ := Aside0.mk ((by rw [hg]; exact (below_size (by repeat (first | (with_reducible first | exact HB.out | apply below_alloc | apply pw_below_drewN | apply below_drew1) | exact HB.out))) : w.heap.size ≤ gb101)); clear HB; have HB := n0_; have BK101 := n1_; have GW101 := n2_; have GE101 := n3_; clear n0_ n1_ n2_ n3_; clear hb hbox hg; have hcz43_0 : w42.cell? ⟨gb101, 0, none⟩ = some (.bool a0_0) := (blk_cell BK101.out 0).trans rfl; have hcz43_1 : w42.cell? ⟨gb101, 1, none⟩ = some (.bool a0_1) := (blk_cell BK101.out 1).trans rfl; have hcz43_2 : w42.cell? ⟨gb101, 2, none⟩ = some (.bool a0_2) := (blk_cell BK101.out 2).trans rfl; have hcz43_3 : w42.cell? ⟨gb101, 3, none⟩ = some (.bool a0_3) := (blk_cell BK101.out 3).trans rfl; have hcz43_4 : w42.cell? ⟨gb101, 4, none⟩ = some (.int .u32 a0_4) := (blk_cell BK101.out 4).trans rfl; have hcz43_5 : w42.cell? ⟨gb101, 5, none⟩ = some (.int .u32 a0_5) := (blk_cell BK101.out 5).trans rfl; have hcz43_6 : w42.cell? ⟨gb101, 6, none⟩ = some (.int .i64 a0_6) := (blk_cell BK101.out 6).trans rfl; have hfz43_0 := blk_frozen BK101.out 0; have hfz43_1 := blk_frozen BK101.out 1; have hfz43_2 := blk_frozen BK101.out 2; have hfz43_3 := blk_frozen BK101.out 3; have hfz43_4 := blk_frozen BK101.out 4; have hfz43_5 := blk_frozen BK101.out 5; have hfz43_6 := blk_frozen BK101.out 6) | ((with_reducible refine gate_callee (f := 41) rfl ?_); refine goesL_ (some 14) rfl rfl Tryd.func41 (by kernel_rfl) rfl #[.bool a0_1] rfl (by (try simp only [List.map_toArray, List.map_cons, List.map_nil]); first | done | rfl | (simp only [List.length_drop, List.length_take]; rfl)) ?_; (with_reducible refine (fcs_Size.calls a0_1 t102 _ ?side1 A3.out).mono ?_); (case side1 => repeat (first | exact (GF_below HGF.out HB.out) | (with_reducible refine GF_alloc ?_ _) | (with_reducible refine GF_drewN ?_ _) | (with_reducible refine GF_drew ?_))); rintro e w44 ⟨rfl, hb⟩; refine ⟨_, rfl, ?_⟩; have n0_ := Aside0.mk (blk_below (g := gb101) (o := .cells #[.bool a0_0, .bool a0_1, .bool a0_2, .bool a0_3, .int .u32 a0_4, .int .u32 a0_5, .int .i64 a0_6] 26 (0, 0)) (by (with_reducible repeat (first | refine blk_drewN ?_ _ | refine blk_drew ?_ | refine blk_alloc ?_ _)); exact BK101.out) hb); have n1_ := Aside0.mk (below_step (by repeat (first | (with_reducible first | exact HB.out | apply below_alloc | apply pw_below_drewN | apply below_drew1 | refine below_set ?_ GE101.out) | exact HB.out)) hb); clear BK101; clear HB; have BK101 := n0_; have HB := n1_; clear n0_ n1_; (try clear hb); (try clear hb2); (try clear hk); (try clear hi); have hcz45_0 : w44.cell? ⟨gb101, 0, none⟩ = some (.bool a0_0) := (blk_cell BK101.out 0).trans rfl; have hcz45_1 : w44.cell? ⟨gb101, 1, none⟩ = some (.bool a0_1) := (blk_cell BK101.out 1).trans rfl; have hcz45_2 : w44.cell? ⟨gb101, 2, none⟩ = some (.bool a0_2) := (blk_cell BK101.out 2).trans rfl; have hcz45_3 : w44.cell? ⟨gb101, 3, none⟩ = some (.bool a0_3) := (blk_cell BK101.out 3).trans rfl; have hcz45_4 : w44.cell? ⟨gb101, 4, none⟩ = some (.int .u32 a0_4) := (blk_cell BK101.out 4).trans rfl; have hcz45_5 : w44.cell? ⟨gb101, 5, none⟩ = some (.int .u32 a0_5) := (blk_cell BK101.out 5).trans rfl; have hcz45_6 : w44.cell? ⟨gb101, 6, none⟩ = some (.int .i64 a0_6) := (blk_cell BK101.out 6).trans rfl; have hfz45_0 := blk_frozen BK101.out 0; have hfz45_1 := blk_frozen BK101.out 1; have hfz45_2 := blk_frozen BK101.out 2; have hfz45_3 := blk_frozen BK101.out 3; have hfz45_4 := blk_frozen BK101.out 4; have hfz45_5 := blk_frozen BK101.out 5; have hfz45_6 := blk_frozen BK101.out 6) | ((with_reducible refine gate_callee (f := 20) rfl ?_); refine goesL_ (some 19) rfl rfl Tryd.func20 (by kernel_rfl) rfl #[.agg #[.bool a0_0, .bool a0_1, .bool a0_2, .bool a0_3, .int .u32 a0_4, .int .u32 a0_5, .int .i64 a0_6]] rfl (by (try simp only [List.map_toArray, List.map_cons, List.map_nil]); first | done | rfl | (simp only [List.length_drop, List.length_take]; rfl)) ?_; (with_reducible refine (config_Most.calls a0_0 a0_1 a0_2 a0_3 a0_4 a0_5 a0_6 t103 _ ?side1 A4.out).mono ?_); (case side1 => repeat (first | exact (GF_below HGF.out HB.out) | (with_reducible refine GF_alloc ?_ _) | (with_reducible refine GF_drewN ?_ _) | (with_reducible refine GF_drew ?_))); rintro e w46 ⟨rfl, hb⟩; refine ⟨_, rfl, ?_⟩; have n0_ := Aside0.mk (blk_below (g := gb101) (o := .cells #[.bool a0_0, .bool a0_1, .bool a0_2, .bool a0_3, .int .u32 a0_4, .int .u32 a0_5, .int .i64 a0_6] 26 (0, 0)) (by (with_reducible repeat (first | refine blk_drewN ?_ _ | refine blk_drew ?_ | refine blk_alloc ?_ _)); exact BK101.out) hb); have n1_ := Aside0.mk (below_step (by repeat (first | (with_reducible first | exact HB.out | apply below_alloc | apply pw_below_drewN | apply below_drew1 | refine below_set ?_ GE101.out) | exact HB.out)) hb); clear BK101; clear HB; have BK101 := n0_; have HB := n1_; clear n0_ n1_; (try clear hb); (try clear hb2); (try clear hk); (try clear hi); have hcz47_0 : w46.cell? ⟨gb101, 0, none⟩ = some (.bool a0_0) := (blk_cell BK101.out 0).trans rfl; have hcz47_1 : w46.cell? ⟨gb101, 1, none⟩ = some (.bool a0_1) := (blk_cell BK101.out 1).trans rfl; have hcz47_2 : w46.cell? ⟨gb101, 2, none⟩ = some (.bool a0_2) := (blk_cell BK101.out 2).trans rfl; have hcz47_3 : w46.cell? ⟨gb101, 3, none⟩ = some (.bool a0_3) := (blk_cell BK101.out 3).trans rfl; have hcz47_4 : w46.cell? ⟨gb101, 4, none⟩ = some (.int .u32 a0_4) := (blk_cell BK101.out 4).trans rfl; have hcz47_5 : w46.cell? ⟨gb101, 5, none⟩ = some (.int .u32 a0_5) := (blk_cell BK101.out 5).trans rfl; have hcz47_6 : w46.cell? ⟨gb101, 6, none⟩ = some (.int .i64 a0_6) := (blk_cell BK101.out 6).trans rfl; have hfz47_0 := blk_frozen BK101.out 0; have hfz47_1 := blk_frozen BK101.out 1; have hfz47_2 := blk_frozen BK101.out 2; have hfz47_3 := blk_frozen BK101.out 3; have hfz47_4 := blk_frozen BK101.out 4; have hfz47_5 := blk_frozen BK101.out 5; have hfz47_6 := blk_frozen BK101.out 6) | ((with_reducible refine gate_callee (f := 42) rfl ?_); refine goesL_ (some 30) rfl rfl Tryd.func42 (by kernel_rfl) rfl #[.bool a0_1, .slice A1 l1.length c1] rfl (by (try simp only [List.map_toArray, List.map_cons, List.map_nil]); first | done | rfl | (simp only [List.length_drop, List.length_take]; rfl)) ?_; (with_reducible refine (fcs_Good.calls a0_1 _ _ l1 true _ ?side1 ?side2 ?side3 A17.out).mono ?_); (case side1 => repeat (first | exact (Kd.C_below HR1.out HB.out) | (with_reducible refine Kd.C_alloc ?_ _) | (with_reducible refine Kd.C_drewN ?_ _) | (with_reducible refine Kd.C_drew ?_))); (case side2 => exact HC1.out); (case side3 => repeat (first | exact (GF_below HGF.out HB.out) | (with_reducible refine GF_alloc ?_ _) | (with_reducible refine GF_drewN ?_ _) | (with_reducible refine GF_drew ?_))); rintro e w48 ⟨rfl, hb⟩; refine ⟨_, rfl, ?_⟩; have n0_ := Aside0.mk (blk_below (g := gb101) (o := .cells #[.bool a0_0, .bool a0_1, .bool a0_2, .bool a0_3, .int .u32 a0_4, .int .u32 a0_5, .int .i64 a0_6] 26 (0, 0)) (by (with_reducible repeat (first | refine blk_drewN ?_ _ | refine blk_drew ?_ | refine blk_alloc ?_ _)); exact BK101.out) hb); have n1_ := Aside0.mk (below_step (by repeat (first | (with_reducible first | exact HB.out | apply below_alloc | apply pw_below_drewN | apply below_drew1 | refine below_set ?_ GE101.out) | exact HB.out)) hb); clear BK101; clear HB; have BK101 := n0_; have HB := n1_; clear n0_ n1_; (try clear hb); (try clear hb2); (try clear hk); (try clear hi); obtain ⟨i049, hi049, _, hsz49, _⟩ := info_parts info5; obtain ⟨hcut49, hA49, hC49⟩ := print_take_of (P := Tryd.prog) (Value.int .u8) 0 35 5 .i64 Tryd.underlying35 hi049 hsz49 A1 c1 l1 (ji19) (of_decide_eq_true (by first | (with_reducible assumption) | assumption)) (of_decide_eq_true (by first | (with_reducible assumption) | assumption)) HC1.out; rw [← HCM1.out] at hcut49 hA49 hC49; have HR105 := Aside0.mk (Kd.C_of_reads (h1 := fun _ => rfl) (hA49 _ (Kd.reads_of_C HR1.out))); have HC105 := Aside0.mk hC49; clear hA49 hC49 hi049 hsz49; have hcz50_0 : w48.cell? ⟨gb101, 0, none⟩ = some (.bool a0_0) := (blk_cell BK101.out 0).trans rfl; have hcz50_1 : w48.cell? ⟨gb101, 1, none⟩ = some (.bool a0_1) := (blk_cell BK101.out 1).trans rfl; have hcz50_2 : w48.cell? ⟨gb101, 2, none⟩ = some (.bool a0_2) := (blk_cell BK101.out 2).trans rfl; have hcz50_3 : w48.cell? ⟨gb101, 3, none⟩ = some (.bool a0_3) := (blk_cell BK101.out 3).trans rfl; have hcz50_4 : w48.cell? ⟨gb101, 4, none⟩ = some (.int .u32 a0_4) := (blk_cell BK101.out 4).trans rfl; have hcz50_5 : w48.cell? ⟨gb101, 5, none⟩ = some (.int .u32 a0_5) := (blk_cell BK101.out 5).trans rfl; have hcz50_6 : w48.cell? ⟨gb101, 6, none⟩ = some (.int .i64 a0_6) := (blk_cell BK101.out 6).trans rfl; have hfz50_0 := blk_frozen BK101.out 0; have hfz50_1 := blk_frozen BK101.out 1; have hfz50_2 := blk_frozen BK101.out 2; have hfz50_3 := blk_frozen BK101.out 3; have hfz50_4 := blk_frozen BK101.out 4; have hfz50_5 := blk_frozen BK101.out 5; have hfz50_6 := blk_frozen BK101.out 6) | ((with_reducible refine gate_callee (f := 29) rfl ?_); refine goesL_ (some 41) rfl rfl Tryd.func29 (by kernel_rfl) rfl #[.agg #[.bool a0_0, .bool a0_1, .bool a0_2, .bool a0_3, .int .u32 a0_4, .int .u32 a0_5, .int .i64 a0_6], .slice A1 cm1.length c1] rfl (by (try simp only [List.map_toArray, List.map_cons, List.map_nil]); first | done | (rw [show cm1.length = (ji19).toNat from (by rw [List.length_take]; have h_ : ((ji19) : Int) ≤ (l1.length : Int) := of_decide_eq_true (by first | (with_reducible assumption) | assumption); omega)] <;> rfl) | (simp only [hji19]; rfl) | rfl | (simp only [List.length_drop, List.length_take]; rfl)) ?_; (with_reducible refine (head_Get.calls k a0_0 a0_1 a0_2 a0_3 a0_4 a0_5 a0_6 _ _ cm1 t106 t107 t108 _ ?side1 ?side2 ?side3 A22.out).mono ?_); (case side1 => repeat (first | exact (Kd.C_below HR105.out HB.out) | (with_reducible refine Kd.C_alloc ?_ _) | (with_reducible refine Kd.C_drewN ?_ _) | (with_reducible refine Kd.C_drew ?_))); (case side2 => exact HC105.out); (case side3 => repeat (first | exact (GH_below HGH.out HB.out) | (with_reducible refine GH_alloc ?_ _) | (with_reducible refine GH_drewN ?_ _) | (with_reducible refine GH_drew ?_))); rintro e w51 ⟨rfl, hb⟩; refine ⟨_, rfl, ?_⟩; have n0_ := Aside0.mk (blk_below (g := gb101) (o := .cells #[.bool a0_0, .bool a0_1, .bool a0_2, .bool a0_3, .int .u32 a0_4, .int .u32 a0_5, .int .i64 a0_6] 26 (0, 0)) (by (with_reducible repeat (first | refine blk_drewN ?_ _ | refine blk_drew ?_ | refine blk_alloc ?_ _)); exact BK101.out) hb); have n1_ := Aside0.mk (below_step (by repeat (first | (with_reducible first | exact HB.out | apply below_alloc | apply pw_below_drewN | apply below_drew1 | refine below_set ?_ GE101.out) | exact HB.out)) hb); clear BK101; clear HB; have BK101 := n0_; have HB := n1_; clear n0_ n1_; (try clear hb); (try clear hb2); (try clear hk); (try clear hi); obtain ⟨i052, hi052, _, hsz52, _⟩ := info_parts info5; obtain ⟨A52, hcut52, hA52, hC52⟩ := print_drop_of (P := Tryd.prog) (Value.int .u8) 0 35 5 .i64 Tryd.underlying35 hi052 hsz52 A1 c1 cm1 t107 (of_decide_eq_true (by first | (with_reducible assumption) | assumption)) (of_decide_eq_true (by first | (with_reducible assumption) | assumption)) HC105.out; rw [← HCM2.out] at hcut52 hA52 hC52; have HR109 := Aside0.mk (Kd.C_of_reads (h1 := fun _ => rfl) (hA52 _ (Kd.reads_of_C HR105.out))); have HC109 := Aside0.mk hC52; clear hA52 hC52 hi052 hsz52) | ((with_reducible refine gate_callee (f := 71) rfl ?_); refine goesL_ (some 51) rfl rfl Tryd.func71 (by kernel_rfl) rfl #[.slice A52 cm2.length (c1 - t107.toNat)] rfl (by (try simp only [List.map_toArray, List.map_cons, List.map_nil]); first | done | (rw [show cm2.length = (cm1.length - t107.toNat) from List.length_drop] <;> rfl) | (simp only [hji19]; rfl) | rfl | (simp only [List.length_drop, List.length_take]; rfl)) ?_; (with_reducible refine (slices_Clone_byte_byte.calls _ _ cm2 t110 _ ?side1 ?side2 A26.out).mono ?_); (case side1 => repeat (first | exact (Kd.C_below HR109.out HB.out) | (with_reducible refine Kd.C_alloc ?_ _) | (with_reducible refine Kd.C_drewN ?_ _) | (with_reducible refine Kd.C_drew ?_))); (case side2 => exact HC109.out); rintro e w53 ⟨v111, rfl, ho0, hb⟩; refine ⟨_, rfl, ?_⟩; have n0_ := Aside0.mk (Kd.R_lower ho0 (below_size (by repeat (first | (with_reducible first | exact HB.out | apply below_alloc | apply pw_below_drewN | apply below_drew1 | refine below_set ?_ GE101.out) | exact HB.out)))); have n1_ := Aside0.mk (blk_below (g := gb101) (o := .cells #[.bool a0_0, .bool a0_1, .bool a0_2, .bool a0_3, .int .u32 a0_4, .int .u32 a0_5, .int .i64 a0_6] 26 (0, 0)) (by (with_reducible repeat (first | refine blk_drewN ?_ _ | refine blk_drew ?_ | refine blk_alloc ?_ _)); exact BK101.out) hb); have n2_ := Aside0.mk (below_step (by repeat (first | (with_reducible first | exact HB.out | apply below_alloc | apply pw_below_drewN | apply below_drew1 | refine below_set ?_ GE101.out) | exact HB.out)) hb); clear BK101; clear HB; have HO112 := n0_; have BK101 := n1_; have HB := n2_; clear n0_ n1_ n2_; (try clear hb); (try clear hb2); (try clear hk); (try clear hi); (try clear ho0); obtain ⟨Ao54, co54, eo54⟩ := Kd.R_slice HO112.out; subst eo54; have hcz55_0 : w53.cell? ⟨gb101, 0, none⟩ = some (.bool a0_0) := (blk_cell BK101.out 0).trans rfl; have hcz55_1 : w53.cell? ⟨gb101, 1, none⟩ = some (.bool a0_1) := (blk_cell BK101.out 1).trans rfl; have hcz55_2 : w53.cell? ⟨gb101, 2, none⟩ = some (.bool a0_2) := (blk_cell BK101.out 2).trans rfl; have hcz55_3 : w53.cell? ⟨gb101, 3, none⟩ = some (.bool a0_3) := (blk_cell BK101.out 3).trans rfl; have hcz55_4 : w53.cell? ⟨gb101, 4, none⟩ = some (.int .u32 a0_4) := (blk_cell BK101.out 4).trans rfl; have hcz55_5 : w53.cell? ⟨gb101, 5, none⟩ = some (.int .u32 a0_5) := (blk_cell BK101.out 5).trans rfl; have hcz55_6 : w53.cell? ⟨gb101, 6, none⟩ = some (.int .i64 a0_6) := (blk_cell BK101.out 6).trans rfl; have hfz55_0 := blk_frozen BK101.out 0; have hfz55_1 := blk_frozen BK101.out 1; have hfz55_2 := blk_frozen BK101.out 2; have hfz55_3 := blk_frozen BK101.out 3; have hfz55_4 := blk_frozen BK101.out 4; have hfz55_5 := blk_frozen BK101.out 5; have hfz55_6 := blk_frozen BK101.out 6))
                    go_ret3
                    exact ⟨_, by first | rfl | (simp [errW_none, errW_some] <;> rfl) | (simp only [← hji19]; first | rfl | (simp [errW_none, errW_some] <;> rfl)) | (simp [*, errW_none, errW_some] <;> rfl), by (with_reducible repeat (first | apply Kd.R_alloc | apply Kd.R_drewN | apply Kd.R_drew)); exact HO112.out, by repeat (first | (with_reducible first | exact HB.out | apply below_alloc | apply pw_below_drewN | apply below_drew1 | refine below_set ?_ GE101.out) | exact HB.out)⟩
                · rw [if_neg c25] at H
                  exact absurd H (by simp)
              · rw [if_neg c24] at H
                exact absurd H (by simp)
            · rw [if_neg c23] at H
              have c23b0 : (t108 == 0) = false := beq_eq_false_iff_ne.mpr c23
              have c23b1 : (t108 != 0) = true := bne_iff_ne.mpr c23
              simp only [Option.some.injEq, Prod.mk.injEq] at H
              obtain ⟨rfl, rfl, rfl⟩ := H
              go_enter Tryd.func49, Tryd.ntmps49
              go_wp2_with (first | ((with_reducible refine gate_dst (N := 2) rfl ?_); refine box_event ?hg (N := 2) ?hd (cs := #[.bool a0_0, .bool a0_1, .bool a0_2, .bool a0_3, .int .u32 a0_4, .int .u32 a0_5, .int .i64 a0_6]) (t := 26) ?hr ?_; (case hd => rfl); (case hg => rfl); (case hr => first | (go_simp; done) | (go_simp; rfl)); intro gb101 hg w56 hbox hb; have n0_ := Aside0.mk (below_step (by repeat (first | (with_reducible first | exact HB.out | apply below_alloc | apply pw_below_drewN | apply below_drew1) | exact HB.out)) hb); have n1_ := Aside0.mk (hbox); have n2_ := Aside0.mk ((by rw [hg]; exact (below_size (by repeat (first | (with_reducible first | exact HB.out | apply below_alloc | apply pw_below_drewN | apply below_drew1) | exact HB.out))) : w.heap.size ≤ gb101)); have n3_ := Aside0.mk ((by rw [hg]; exact (below_size (by repeat (first | (with_reducible first | exact HB.out | apply below_alloc | apply pw_below_drewN | apply below_drew1) | exact HB.out))) : w.heap.size ≤ gb101)); clear HB; have HB := n0_; have BK101 := n1_; have GW101 := n2_; have GE101 := n3_; clear n0_ n1_ n2_ n3_; clear hb hbox hg; have hcz57_0 : w56.cell? ⟨gb101, 0, none⟩ = some (.bool a0_0) := (blk_cell BK101.out 0).trans rfl; have hcz57_1 : w56.cell? ⟨gb101, 1, none⟩ = some (.bool a0_1) := (blk_cell BK101.out 1).trans rfl; have hcz57_2 : w56.cell? ⟨gb101, 2, none⟩ = some (.bool a0_2) := (blk_cell BK101.out 2).trans rfl; have hcz57_3 : w56.cell? ⟨gb101, 3, none⟩ = some (.bool a0_3) := (blk_cell BK101.out 3).trans rfl; have hcz57_4 : w56.cell? ⟨gb101, 4, none⟩ = some (.int .u32 a0_4) := (blk_cell BK101.out 4).trans rfl; have hcz57_5 : w56.cell? ⟨gb101, 5, none⟩ = some (.int .u32 a0_5) := (blk_cell BK101.out 5).trans rfl; have hcz57_6 : w56.cell? ⟨gb101, 6, none⟩ = some (.int .i64 a0_6) := (blk_cell BK101.out 6).trans rfl; have hfz57_0 := blk_frozen BK101.out 0; have hfz57_1 := blk_frozen BK101.out 1; have hfz57_2 := blk_frozen BK101.out 2; have hfz57_3 := blk_frozen BK101.out 3; have hfz57_4 := blk_frozen BK101.out 4; have hfz57_5 := blk_frozen BK101.out 5; have hfz57_6 := blk_frozen BK101.out 6) | ((with_reducible refine gate_callee (f := 41) rfl ?_); refine goesL_ (some 14) rfl rfl Tryd.func41 (by kernel_rfl) rfl #[.bool a0_1] rfl (by (try simp only [List.map_toArray, List.map_cons, List.map_nil]); first | done | rfl | (simp only [List.length_drop, List.length_take]; rfl)) ?_; (with_reducible refine (fcs_Size.calls a0_1 t102 _ ?side1 A3.out).mono ?_); (case side1 => repeat (first | exact (GF_below HGF.out HB.out) | (with_reducible refine GF_alloc ?_ _) | (with_reducible refine GF_drewN ?_ _) | (with_reducible refine GF_drew ?_))); rintro e w58 ⟨rfl, hb⟩; refine ⟨_, rfl, ?_⟩; have n0_ := Aside0.mk (blk_below (g := gb101) (o := .cells #[.bool a0_0, .bool a0_1, .bool a0_2, .bool a0_3, .int .u32 a0_4, .int .u32 a0_5, .int .i64 a0_6] 26 (0, 0)) (by (with_reducible repeat (first | refine blk_drewN ?_ _ | refine blk_drew ?_ | refine blk_alloc ?_ _)); exact BK101.out) hb); have n1_ := Aside0.mk (below_step (by repeat (first | (with_reducible first | exact HB.out | apply below_alloc | apply pw_below_drewN | apply below_drew1 | refine below_set ?_ GE101.out) | exact HB.out)) hb); clear BK101; clear HB; have BK101 := n0_; have HB := n1_; clear n0_ n1_; (try clear hb); (try clear hb2); (try clear hk); (try clear hi); have hcz59_0 : w58.cell? ⟨gb101, 0, none⟩ = some (.bool a0_0) := (blk_cell BK101.out 0).trans rfl; have hcz59_1 : w58.cell? ⟨gb101, 1, none⟩ = some (.bool a0_1) := (blk_cell BK101.out 1).trans rfl; have hcz59_2 : w58.cell? ⟨gb101, 2, none⟩ = some (.bool a0_2) := (blk_cell BK101.out 2).trans rfl; have hcz59_3 : w58.cell? ⟨gb101, 3, none⟩ = some (.bool a0_3) := (blk_cell BK101.out 3).trans rfl; have hcz59_4 : w58.cell? ⟨gb101, 4, none⟩ = some (.int .u32 a0_4) := (blk_cell BK101.out 4).trans rfl; have hcz59_5 : w58.cell? ⟨gb101, 5, none⟩ = some (.int .u32 a0_5) := (blk_cell BK101.out 5).trans rfl; have hcz59_6 : w58.cell? ⟨gb101, 6, none⟩ = some (.int .i64 a0_6) := (blk_cell BK101.out 6).trans rfl; have hfz59_0 := blk_frozen BK101.out 0; have hfz59_1 := blk_frozen BK101.out 1; have hfz59_2 := blk_frozen BK101.out 2; have hfz59_3 := blk_frozen BK101.out 3; have hfz59_4 := blk_frozen BK101.out 4; have hfz59_5 := blk_frozen BK101.out 5; have hfz59_6 := blk_frozen BK101.out 6) | ((with_reducible refine gate_callee (f := 20) rfl ?_); refine goesL_ (some 19) rfl rfl Tryd.func20 (by kernel_rfl) rfl #[.agg #[.bool a0_0, .bool a0_1, .bool a0_2, .bool a0_3, .int .u32 a0_4, .int .u32 a0_5, .int .i64 a0_6]] rfl (by (try simp only [List.map_toArray, List.map_cons, List.map_nil]); first | done | rfl | (simp only [List.length_drop, List.length_take]; rfl)) ?_; (with_reducible refine (config_Most.calls a0_0 a0_1 a0_2 a0_3 a0_4 a0_5 a0_6 t103 _ ?side1 A4.out).mono ?_); (case side1 => repeat (first | exact (GF_below HGF.out HB.out) | (with_reducible refine GF_alloc ?_ _) | (with_reducible refine GF_drewN ?_ _) | (with_reducible refine GF_drew ?_))); rintro e w60 ⟨rfl, hb⟩; refine ⟨_, rfl, ?_⟩; have n0_ := Aside0.mk (blk_below (g := gb101) (o := .cells #[.bool a0_0, .bool a0_1, .bool a0_2, .bool a0_3, .int .u32 a0_4, .int .u32 a0_5, .int .i64 a0_6] 26 (0, 0)) (by (with_reducible repeat (first | refine blk_drewN ?_ _ | refine blk_drew ?_ | refine blk_alloc ?_ _)); exact BK101.out) hb); have n1_ := Aside0.mk (below_step (by repeat (first | (with_reducible first | exact HB.out | apply below_alloc | apply pw_below_drewN | apply below_drew1 | refine below_set ?_ GE101.out) | exact HB.out)) hb); clear BK101; clear HB; have BK101 := n0_; have HB := n1_; clear n0_ n1_; (try clear hb); (try clear hb2); (try clear hk); (try clear hi); have hcz61_0 : w60.cell? ⟨gb101, 0, none⟩ = some (.bool a0_0) := (blk_cell BK101.out 0).trans rfl; have hcz61_1 : w60.cell? ⟨gb101, 1, none⟩ = some (.bool a0_1) := (blk_cell BK101.out 1).trans rfl; have hcz61_2 : w60.cell? ⟨gb101, 2, none⟩ = some (.bool a0_2) := (blk_cell BK101.out 2).trans rfl; have hcz61_3 : w60.cell? ⟨gb101, 3, none⟩ = some (.bool a0_3) := (blk_cell BK101.out 3).trans rfl; have hcz61_4 : w60.cell? ⟨gb101, 4, none⟩ = some (.int .u32 a0_4) := (blk_cell BK101.out 4).trans rfl; have hcz61_5 : w60.cell? ⟨gb101, 5, none⟩ = some (.int .u32 a0_5) := (blk_cell BK101.out 5).trans rfl; have hcz61_6 : w60.cell? ⟨gb101, 6, none⟩ = some (.int .i64 a0_6) := (blk_cell BK101.out 6).trans rfl; have hfz61_0 := blk_frozen BK101.out 0; have hfz61_1 := blk_frozen BK101.out 1; have hfz61_2 := blk_frozen BK101.out 2; have hfz61_3 := blk_frozen BK101.out 3; have hfz61_4 := blk_frozen BK101.out 4; have hfz61_5 := blk_frozen BK101.out 5; have hfz61_6 := blk_frozen BK101.out 6) | ((with_reducible refine gate_callee (f := 42) rfl ?_); refine goesL_ (some 30) rfl rfl Tryd.func42 (by kernel_rfl) rfl #[.bool a0_1, .slice A1 l1.length c1] rfl (by (try simp only [List.map_toArray, List.map_cons, List.map_nil]); first | done | rfl | (simp only [List.length_drop, List.length_take]; rfl)) ?_; (with_reducible refine (fcs_Good.calls a0_1 _ _ l1 true _ ?side1 ?side2 ?side3 A17.out).mono ?_); (case side1 => repeat (first | exact (Kd.C_below HR1.out HB.out) | (with_reducible refine Kd.C_alloc ?_ _) | (with_reducible refine Kd.C_drewN ?_ _) | (with_reducible refine Kd.C_drew ?_))); (case side2 => exact HC1.out); (case side3 => repeat (first | exact (GF_below HGF.out HB.out) | (with_reducible refine GF_alloc ?_ _) | (with_reducible refine GF_drewN ?_ _) | (with_reducible refine GF_drew ?_))); rintro e w62 ⟨rfl, hb⟩; refine ⟨_, rfl, ?_⟩; have n0_ := Aside0.mk (blk_below (g := gb101) (o := .cells #[.bool a0_0, .bool a0_1, .bool a0_2, .bool a0_3, .int .u32 a0_4, .int .u32 a0_5, .int .i64 a0_6] 26 (0, 0)) (by (with_reducible repeat (first | refine blk_drewN ?_ _ | refine blk_drew ?_ | refine blk_alloc ?_ _)); exact BK101.out) hb); have n1_ := Aside0.mk (below_step (by repeat (first | (with_reducible first | exact HB.out | apply below_alloc | apply pw_below_drewN | apply below_drew1 | refine below_set ?_ GE101.out) | exact HB.out)) hb); clear BK101; clear HB; have BK101 := n0_; have HB := n1_; clear n0_ n1_; (try clear hb); (try clear hb2); (try clear hk); (try clear hi); obtain ⟨i063, hi063, _, hsz63, _⟩ := info_parts info5; obtain ⟨hcut63, hA63, hC63⟩ := print_take_of (P := Tryd.prog) (Value.int .u8) 0 35 5 .i64 Tryd.underlying35 hi063 hsz63 A1 c1 l1 (ji19) (of_decide_eq_true (by first | (with_reducible assumption) | assumption)) (of_decide_eq_true (by first | (with_reducible assumption) | assumption)) HC1.out; have HR105 := Aside0.mk (Kd.C_of_reads (h1 := fun _ => rfl) (hA63 _ (Kd.reads_of_C HR1.out))); have HC105 := Aside0.mk hC63; clear hA63 hC63 hi063 hsz63; have hcz64_0 : w62.cell? ⟨gb101, 0, none⟩ = some (.bool a0_0) := (blk_cell BK101.out 0).trans rfl; have hcz64_1 : w62.cell? ⟨gb101, 1, none⟩ = some (.bool a0_1) := (blk_cell BK101.out 1).trans rfl; have hcz64_2 : w62.cell? ⟨gb101, 2, none⟩ = some (.bool a0_2) := (blk_cell BK101.out 2).trans rfl; have hcz64_3 : w62.cell? ⟨gb101, 3, none⟩ = some (.bool a0_3) := (blk_cell BK101.out 3).trans rfl; have hcz64_4 : w62.cell? ⟨gb101, 4, none⟩ = some (.int .u32 a0_4) := (blk_cell BK101.out 4).trans rfl; have hcz64_5 : w62.cell? ⟨gb101, 5, none⟩ = some (.int .u32 a0_5) := (blk_cell BK101.out 5).trans rfl; have hcz64_6 : w62.cell? ⟨gb101, 6, none⟩ = some (.int .i64 a0_6) := (blk_cell BK101.out 6).trans rfl; have hfz64_0 := blk_frozen BK101.out 0; have hfz64_1 := blk_frozen BK101.out 1; have hfz64_2 := blk_frozen BK101.out 2; have hfz64_3 := blk_frozen BK101.out 3; have hfz64_4 := blk_frozen BK101.out 4; have hfz64_5 := blk_frozen BK101.out 5; have hfz64_6 := blk_frozen BK101.out 6) | ((with_reducible refine gate_callee (f := 29) rfl ?_); refine goesL_ (some 41) rfl rfl Tryd.func29 (by kernel_rfl) rfl #[.agg #[.bool a0_0, .bool a0_1, .bool a0_2, .bool a0_3, .int .u32 a0_4, .int .u32 a0_5, .int .i64 a0_6], .slice A1 (l1.take ((ji19) : Int).toNat).length c1] rfl (by (try simp only [List.map_toArray, List.map_cons, List.map_nil]); first | done | (rw [show (l1.take ((ji19) : Int).toNat).length = (ji19).toNat from (by rw [List.length_take]; have h_ : ((ji19) : Int) ≤ (l1.length : Int) := of_decide_eq_true (by first | (with_reducible assumption) | assumption); omega)] <;> rfl) | (simp only [hji19]; rfl) | rfl | (simp only [List.length_drop, List.length_take]; rfl)) ?_; (with_reducible refine (head_Get.calls k a0_0 a0_1 a0_2 a0_3 a0_4 a0_5 a0_6 _ _ (l1.take ((ji19) : Int).toNat) t106 t107 t108 _ ?side1 ?side2 ?side3 A22.out).mono ?_); (case side1 => repeat (first | exact (Kd.C_below HR105.out HB.out) | (with_reducible refine Kd.C_alloc ?_ _) | (with_reducible refine Kd.C_drewN ?_ _) | (with_reducible refine Kd.C_drew ?_))); (case side2 => exact HC105.out); (case side3 => repeat (first | exact (GH_below HGH.out HB.out) | (with_reducible refine GH_alloc ?_ _) | (with_reducible refine GH_drewN ?_ _) | (with_reducible refine GH_drew ?_))); rintro e w65 ⟨rfl, hb⟩; refine ⟨_, rfl, ?_⟩; have n0_ := Aside0.mk (blk_below (g := gb101) (o := .cells #[.bool a0_0, .bool a0_1, .bool a0_2, .bool a0_3, .int .u32 a0_4, .int .u32 a0_5, .int .i64 a0_6] 26 (0, 0)) (by (with_reducible repeat (first | refine blk_drewN ?_ _ | refine blk_drew ?_ | refine blk_alloc ?_ _)); exact BK101.out) hb); have n1_ := Aside0.mk (below_step (by repeat (first | (with_reducible first | exact HB.out | apply below_alloc | apply pw_below_drewN | apply below_drew1 | refine below_set ?_ GE101.out) | exact HB.out)) hb); clear BK101; clear HB; have BK101 := n0_; have HB := n1_; clear n0_ n1_; (try clear hb); (try clear hb2); (try clear hk); (try clear hi)))
              go_ret3
              exact ⟨_, by first | rfl | (simp [errW_none, errW_some] <;> rfl) | (simp only [← hji19]; first | rfl | (simp [errW_none, errW_some] <;> rfl)) | (simp [*, errW_none, errW_some] <;> rfl), by first | exact Kd.R_nil _ _ _ _ _ | exact Kd.N_nil _ _ _ _ _ | exact Kd.V_nil _ _ _ _ _ | exact Kd.Q_nil _ _ _ _ _ | exact Kd.S_nil _ _ _ _ _, by repeat (first | (with_reducible first | exact HB.out | apply below_alloc | apply pw_below_drewN | apply below_drew1 | refine below_set ?_ GE101.out) | exact HB.out)⟩
          · rw [if_neg c21] at H
            exact absurd H (by simp)
        · rw [if_neg c20] at H
          exact absurd H (by simp)
      · replace c18 := Bool.eq_false_iff.mpr c18
        subst c18
        have H1 : (some (0, ([] : List Int), 6)) = some (r1, r2, r3) := by rw [if_neg (show ¬ (false = true) by decide)] at H; exact H
        clear H
        have H := H1
        clear H1
        simp only [Option.some.injEq, Prod.mk.injEq] at H
        obtain ⟨rfl, rfl, rfl⟩ := H
        go_enter Tryd.func49, Tryd.ntmps49
        go_wp2_with (first | ((with_reducible refine gate_dst (N := 2) rfl ?_); refine box_event ?hg (N := 2) ?hd (cs := #[.bool a0_0, .bool a0_1, .bool a0_2, .bool a0_3, .int .u32 a0_4, .int .u32 a0_5, .int .i64 a0_6]) (t := 26) ?hr ?_; (case hd => rfl); (case hg => rfl); (case hr => first | (go_simp; done) | (go_simp; rfl)); intro gb101 hg w66 hbox hb; have n0_ := Aside0.mk (below_step (by repeat (first | (with_reducible first | exact HB.out | apply below_alloc | apply pw_below_drewN | apply below_drew1) | exact HB.out)) hb); have n1_ := Aside0.mk (hbox); have n2_ := Aside0.mk ((by rw [hg]; exact (below_size (by repeat (first | (with_reducible first | exact HB.out | apply below_alloc | apply pw_below_drewN | apply below_drew1) | exact HB.out))) : w.heap.size ≤ gb101)); have n3_ := Aside0.mk ((by rw [hg]; exact (below_size (by repeat (first | (with_reducible first | exact HB.out | apply below_alloc | apply pw_below_drewN | apply below_drew1) | exact HB.out))) : w.heap.size ≤ gb101)); clear HB; have HB := n0_; have BK101 := n1_; have GW101 := n2_; have GE101 := n3_; clear n0_ n1_ n2_ n3_; clear hb hbox hg; have hcz67_0 : w66.cell? ⟨gb101, 0, none⟩ = some (.bool a0_0) := (blk_cell BK101.out 0).trans rfl; have hcz67_1 : w66.cell? ⟨gb101, 1, none⟩ = some (.bool a0_1) := (blk_cell BK101.out 1).trans rfl; have hcz67_2 : w66.cell? ⟨gb101, 2, none⟩ = some (.bool a0_2) := (blk_cell BK101.out 2).trans rfl; have hcz67_3 : w66.cell? ⟨gb101, 3, none⟩ = some (.bool a0_3) := (blk_cell BK101.out 3).trans rfl; have hcz67_4 : w66.cell? ⟨gb101, 4, none⟩ = some (.int .u32 a0_4) := (blk_cell BK101.out 4).trans rfl; have hcz67_5 : w66.cell? ⟨gb101, 5, none⟩ = some (.int .u32 a0_5) := (blk_cell BK101.out 5).trans rfl; have hcz67_6 : w66.cell? ⟨gb101, 6, none⟩ = some (.int .i64 a0_6) := (blk_cell BK101.out 6).trans rfl; have hfz67_0 := blk_frozen BK101.out 0; have hfz67_1 := blk_frozen BK101.out 1; have hfz67_2 := blk_frozen BK101.out 2; have hfz67_3 := blk_frozen BK101.out 3; have hfz67_4 := blk_frozen BK101.out 4; have hfz67_5 := blk_frozen BK101.out 5; have hfz67_6 := blk_frozen BK101.out 6) | ((with_reducible refine gate_callee (f := 41) rfl ?_); refine goesL_ (some 14) rfl rfl Tryd.func41 (by kernel_rfl) rfl #[.bool a0_1] rfl (by (try simp only [List.map_toArray, List.map_cons, List.map_nil]); first | done | rfl | (simp only [List.length_drop, List.length_take]; rfl)) ?_; (with_reducible refine (fcs_Size.calls a0_1 t102 _ ?side1 A3.out).mono ?_); (case side1 => repeat (first | exact (GF_below HGF.out HB.out) | (with_reducible refine GF_alloc ?_ _) | (with_reducible refine GF_drewN ?_ _) | (with_reducible refine GF_drew ?_))); rintro e w68 ⟨rfl, hb⟩; refine ⟨_, rfl, ?_⟩; have n0_ := Aside0.mk (blk_below (g := gb101) (o := .cells #[.bool a0_0, .bool a0_1, .bool a0_2, .bool a0_3, .int .u32 a0_4, .int .u32 a0_5, .int .i64 a0_6] 26 (0, 0)) (by (with_reducible repeat (first | refine blk_drewN ?_ _ | refine blk_drew ?_ | refine blk_alloc ?_ _)); exact BK101.out) hb); have n1_ := Aside0.mk (below_step (by repeat (first | (with_reducible first | exact HB.out | apply below_alloc | apply pw_below_drewN | apply below_drew1 | refine below_set ?_ GE101.out) | exact HB.out)) hb); clear BK101; clear HB; have BK101 := n0_; have HB := n1_; clear n0_ n1_; (try clear hb); (try clear hb2); (try clear hk); (try clear hi); have hcz69_0 : w68.cell? ⟨gb101, 0, none⟩ = some (.bool a0_0) := (blk_cell BK101.out 0).trans rfl; have hcz69_1 : w68.cell? ⟨gb101, 1, none⟩ = some (.bool a0_1) := (blk_cell BK101.out 1).trans rfl; have hcz69_2 : w68.cell? ⟨gb101, 2, none⟩ = some (.bool a0_2) := (blk_cell BK101.out 2).trans rfl; have hcz69_3 : w68.cell? ⟨gb101, 3, none⟩ = some (.bool a0_3) := (blk_cell BK101.out 3).trans rfl; have hcz69_4 : w68.cell? ⟨gb101, 4, none⟩ = some (.int .u32 a0_4) := (blk_cell BK101.out 4).trans rfl; have hcz69_5 : w68.cell? ⟨gb101, 5, none⟩ = some (.int .u32 a0_5) := (blk_cell BK101.out 5).trans rfl; have hcz69_6 : w68.cell? ⟨gb101, 6, none⟩ = some (.int .i64 a0_6) := (blk_cell BK101.out 6).trans rfl; have hfz69_0 := blk_frozen BK101.out 0; have hfz69_1 := blk_frozen BK101.out 1; have hfz69_2 := blk_frozen BK101.out 2; have hfz69_3 := blk_frozen BK101.out 3; have hfz69_4 := blk_frozen BK101.out 4; have hfz69_5 := blk_frozen BK101.out 5; have hfz69_6 := blk_frozen BK101.out 6) | ((with_reducible refine gate_callee (f := 20) rfl ?_); refine goesL_ (some 19) rfl rfl Tryd.func20 (by kernel_rfl) rfl #[.agg #[.bool a0_0, .bool a0_1, .bool a0_2, .bool a0_3, .int .u32 a0_4, .int .u32 a0_5, .int .i64 a0_6]] rfl (by (try simp only [List.map_toArray, List.map_cons, List.map_nil]); first | done | rfl | (simp only [List.length_drop, List.length_take]; rfl)) ?_; (with_reducible refine (config_Most.calls a0_0 a0_1 a0_2 a0_3 a0_4 a0_5 a0_6 t103 _ ?side1 A4.out).mono ?_); (case side1 => repeat (first | exact (GF_below HGF.out HB.out) | (with_reducible refine GF_alloc ?_ _) | (with_reducible refine GF_drewN ?_ _) | (with_reducible refine GF_drew ?_))); rintro e w70 ⟨rfl, hb⟩; refine ⟨_, rfl, ?_⟩; have n0_ := Aside0.mk (blk_below (g := gb101) (o := .cells #[.bool a0_0, .bool a0_1, .bool a0_2, .bool a0_3, .int .u32 a0_4, .int .u32 a0_5, .int .i64 a0_6] 26 (0, 0)) (by (with_reducible repeat (first | refine blk_drewN ?_ _ | refine blk_drew ?_ | refine blk_alloc ?_ _)); exact BK101.out) hb); have n1_ := Aside0.mk (below_step (by repeat (first | (with_reducible first | exact HB.out | apply below_alloc | apply pw_below_drewN | apply below_drew1 | refine below_set ?_ GE101.out) | exact HB.out)) hb); clear BK101; clear HB; have BK101 := n0_; have HB := n1_; clear n0_ n1_; (try clear hb); (try clear hb2); (try clear hk); (try clear hi); have hcz71_0 : w70.cell? ⟨gb101, 0, none⟩ = some (.bool a0_0) := (blk_cell BK101.out 0).trans rfl; have hcz71_1 : w70.cell? ⟨gb101, 1, none⟩ = some (.bool a0_1) := (blk_cell BK101.out 1).trans rfl; have hcz71_2 : w70.cell? ⟨gb101, 2, none⟩ = some (.bool a0_2) := (blk_cell BK101.out 2).trans rfl; have hcz71_3 : w70.cell? ⟨gb101, 3, none⟩ = some (.bool a0_3) := (blk_cell BK101.out 3).trans rfl; have hcz71_4 : w70.cell? ⟨gb101, 4, none⟩ = some (.int .u32 a0_4) := (blk_cell BK101.out 4).trans rfl; have hcz71_5 : w70.cell? ⟨gb101, 5, none⟩ = some (.int .u32 a0_5) := (blk_cell BK101.out 5).trans rfl; have hcz71_6 : w70.cell? ⟨gb101, 6, none⟩ = some (.int .i64 a0_6) := (blk_cell BK101.out 6).trans rfl; have hfz71_0 := blk_frozen BK101.out 0; have hfz71_1 := blk_frozen BK101.out 1; have hfz71_2 := blk_frozen BK101.out 2; have hfz71_3 := blk_frozen BK101.out 3; have hfz71_4 := blk_frozen BK101.out 4; have hfz71_5 := blk_frozen BK101.out 5; have hfz71_6 := blk_frozen BK101.out 6) | ((with_reducible refine gate_callee (f := 42) rfl ?_); refine goesL_ (some 30) rfl rfl Tryd.func42 (by kernel_rfl) rfl #[.bool a0_1, .slice A1 l1.length c1] rfl (by (try simp only [List.map_toArray, List.map_cons, List.map_nil]); first | done | rfl | (simp only [List.length_drop, List.length_take]; rfl)) ?_; (with_reducible refine (fcs_Good.calls a0_1 _ _ l1 false _ ?side1 ?side2 ?side3 A17.out).mono ?_); (case side1 => repeat (first | exact (Kd.C_below HR1.out HB.out) | (with_reducible refine Kd.C_alloc ?_ _) | (with_reducible refine Kd.C_drewN ?_ _) | (with_reducible refine Kd.C_drew ?_))); (case side2 => exact HC1.out); (case side3 => repeat (first | exact (GF_below HGF.out HB.out) | (with_reducible refine GF_alloc ?_ _) | (with_reducible refine GF_drewN ?_ _) | (with_reducible refine GF_drew ?_))); rintro e w72 ⟨rfl, hb⟩; refine ⟨_, rfl, ?_⟩; have n0_ := Aside0.mk (blk_below (g := gb101) (o := .cells #[.bool a0_0, .bool a0_1, .bool a0_2, .bool a0_3, .int .u32 a0_4, .int .u32 a0_5, .int .i64 a0_6] 26 (0, 0)) (by (with_reducible repeat (first | refine blk_drewN ?_ _ | refine blk_drew ?_ | refine blk_alloc ?_ _)); exact BK101.out) hb); have n1_ := Aside0.mk (below_step (by repeat (first | (with_reducible first | exact HB.out | apply below_alloc | apply pw_below_drewN | apply below_drew1 | refine below_set ?_ GE101.out) | exact HB.out)) hb); clear BK101; clear HB; have BK101 := n0_; have HB := n1_; clear n0_ n1_; (try clear hb); (try clear hb2); (try clear hk); (try clear hi)))
        go_ret3
        exact ⟨_, by first | rfl | (simp [errW_none, errW_some] <;> rfl) | (simp [*, errW_none, errW_some] <;> rfl), by first | exact Kd.R_nil _ _ _ _ _ | exact Kd.N_nil _ _ _ _ _ | exact Kd.V_nil _ _ _ _ _ | exact Kd.Q_nil _ _ _ _ _ | exact Kd.S_nil _ _ _ _ _, by repeat (first | (with_reducible first | exact HB.out | apply below_alloc | apply pw_below_drewN | apply below_drew1 | refine below_set ?_ GE101.out) | exact HB.out)⟩
end Go.Proofs.YtggpejjfgphihaaDoor.E
end

section
namespace Go.Proofs.YtggpejjfgphihaaDoor.Pu
open Go.RowKit Go.Proofs.YtggpejjfgphihaaDoorW.PrintWords Go.Proofs.YtggpejjfgphihaaDoorW.PrintLast Go.Proofs.YtggpejjfgphihaaDoorW.PrintMore
open Go.Proofs.YtggpejjfgphihaaDoor.Given Go.Proofs.YtggpejjfgphihaaDoor.D Go.Proofs.YtggpejjfgphihaaDoor.H Go.Proofs.YtggpejjfgphihaaDoor.E
set_option linter.unusedVariables false
set_option linter.unusedSimpArgs false
theorem bd {α β : Type} {o : Option α} {x : α} (h : o = some x) (f : α → Option β) : o.bind f = f x := by rw [h]; rfl
def frameN (wide acfc pfc : Bool) (p : Nat) (B : List Nat) : List Nat := headN acfc pfc p ++ B ++ trailerN wide (headN acfc pfc p ++ B)
theorem headB_lt (acfc pfc : Bool) (p : Nat) (hp : p < 65536) (B : List Nat) (hB : ∀ x ∈ B, x < 256) : ∀ x ∈ headN acfc pfc p ++ B, x < 256 := by
  intro x hx
  rcases List.mem_append.1 hx with hx | hx
  · exact headN_lt acfc pfc p hp x hx
  · exact hB x hx
theorem frameN_lt (wide acfc pfc : Bool) (p : Nat) (hp : p < 65536) (B : List Nat) (hB : ∀ x ∈ B, x < 256) : ∀ x ∈ frameN wide acfc pfc p B, x < 256 := by
  intro x hx
  rcases List.mem_append.1 hx with hx | hx
  · exact headB_lt acfc pfc p hp B hB x hx
  · exact trailerN_lt wide _ x hx
theorem headN_le (acfc pfc : Bool) (p : Nat) : 1 ≤ (headN acfc pfc p).length ∧ (headN acfc pfc p).length ≤ 4 := by
  unfold headN
  split
  · have := numN_len p pfc; omega
  · have := numN_len p (pfc && decide (p ≠ 49185)); simp only [List.length_cons]; omega
theorem size_le (wide : Bool) : 2 ≤ sizeN wide ∧ sizeN wide ≤ 4 := by cases wide <;> decide
theorem frameN_len (wide acfc pfc : Bool) (p : Nat) (B : List Nat) : (frameN wide acfc pfc p B).length = (headN acfc pfc p).length + B.length + sizeN wide := by
  unfold frameN
  rw [List.length_append, List.length_append, trailerN_length]
theorem concat2 (A B : List Nat) (h : A.length + B.length < 100000) : slices_Concat_byte_byte.f [ofN A, ofN B] = some (ofN (A ++ B)) := by
  unfold slices_Concat_byte_byte.f
  have e : ([ofN A, ofN B] : List (List Int)).flatten = ofN (A ++ B) := by rw [ofN_append]; simp
  rw [e, if_pos ⟨by rw [ofN_length, List.length_append]; exact h, by simp⟩]
theorem f_Build (k : Nat) (a wide acfc pfc : Bool) (x y z : Int) (p : Nat) (hp : p < 65536) (B : List Nat) (hB : ∀ x ∈ B, x < 256) (hl : B.length < 90000) :
    frame_Build.f (k + 5) a wide acfc pfc x y z (p : Int) (ofN B) = if right p = true then (if (B.length : Int) > z then some ([], 3) else some (ofN (frameN wide acfc pfc p B), 0)) else some ([], 7) := by
  have hh := headN_le acfc pfc p
  have ht := size_le wide
  unfold frame_Build.f
  rw [bd (f_Right p hp), ofN_length]
  split
  · split
    · rfl
    · rw [bd (f_head (k + 2) p hp a wide acfc pfc x y z), bd (concat2 _ B (by omega)), bd (f_Trailer k wide _ (headB_lt acfc pfc p hp B hB)), if_pos (by rw [ofN_length, ofN_length, List.length_append, trailerN_length]; omega), ← ofN_append]
      rfl
  · rfl
def parseN (wide acfc pfc : Bool) (m : Nat) (L : List Nat) : Nat × List Nat × Nat :=
  if m + 4 + sizeN wide < L.length then (0, [], 3) else if L.length ≤ sizeN wide then (0, [], 2) else if goodB wide L = false then (0, [], 6) else
    if (getHead acfc pfc (L.take (L.length - sizeN wide))).2.2 ≠ 0 then (0, [], (getHead acfc pfc (L.take (L.length - sizeN wide))).2.2) else
    if m < ((L.take (L.length - sizeN wide)).drop (getHead acfc pfc (L.take (L.length - sizeN wide))).2.1).length then (0, [], 3) else
      ((getHead acfc pfc (L.take (L.length - sizeN wide))).1, (L.take (L.length - sizeN wide)).drop (getHead acfc pfc (L.take (L.length - sizeN wide))).2.1, 0)
def tri2 (t : Nat × List Nat × Nat) : Int × List Int × Int := ((t.1 : Int), ofN t.2.1, (t.2.2 : Int))
theorem f_Most (a wide c d : Bool) (x y : Int) (m : Nat) (hm : m ≤ 65535) : C.config_Most.f a wide c d x y (m : Int) = some ((m + 4 + sizeN wide : Nat) : Int) := by
  cases wide <;> simp [C.config_Most.f, C.fcs_Size.f, fcs_of.f, sizeN, wrap64] <;> omega
theorem getHead_le (acfc pfc : Bool) (l : List Nat) (h : (getHead acfc pfc l).2.2 = 0) : (getHead acfc pfc l).2.1 ≤ l.length := by
  have hg : ∀ (l : List Nat) (s : Bool), (getN l s).2.2 = 0 → (getN l s).2.1 ≤ l.length := by
    intro l s h
    unfold getN at h ⊢
    match l with
    | [] => simp at h
    | [c] =>
      simp only at h ⊢
      split at h
      · simp at h
      · split at h
        · rename_i h1 h2; simp [h1, h2]
        · simp at h
    | c :: d :: l =>
      simp only at h ⊢
      split at h
      · split at h
        · rename_i h1 h2; simp [h1, h2]
        · simp at h
      · split at h
        · rename_i h1 h2; simp [h1, h2]
        · simp at h
  unfold getHead at h ⊢
  by_cases h1 : begins l = false ∧ acfc = false
  · rw [if_pos h1] at h; simp at h
  rw [if_neg h1] at h ⊢
  obtain ⟨t, ht⟩ : ∃ t, t = getN (if begins l = true then l.drop 2 else l) pfc := ⟨_, rfl⟩
  simp only [← ht] at h ⊢
  by_cases h2 : t.2.2 = 0
  · rw [if_pos h2]
    have h3 := hg (if begins l = true then l.drop 2 else l) pfc (by rw [← ht]; exact h2)
    rw [← ht] at h3
    by_cases hb : begins l = true
    · simp only [hb, if_true, List.length_drop] at h3 ⊢
      have hl : 2 ≤ l.length := by
        unfold begins at hb
        split at hb
        · simp
        · simp at hb
      omega
    · simp only [hb, if_false, Bool.false_eq_true] at h3 ⊢
      omega
  · rw [if_neg h2] at h; simp at h
theorem clone_f (B : List Nat) (h : B.length < 100000) : slices_Clone_byte_byte.f (ofN B) = some (ofN B) := by
  unfold slices_Clone_byte_byte.f
  rw [if_pos (by rw [ofN_length]; omega)]
theorem f_Parse (k : Nat) (a wide acfc pfc : Bool) (x y : Int) (m : Nat) (hm : m ≤ 65535) (L : List Nat) (hL : ∀ x ∈ L, x < 256) (hl : L.length < 90000) :
    frame_Parse.f (k + 3) a wide acfc pfc x y (m : Int) (ofN L) = some (tri2 (parseN wide acfc pfc m L)) := by
  have ht := size_le wide
  unfold frame_Parse.f parseN
  rw [bd (f_Size wide), bd (f_Most a wide acfc pfc x y m hm), ofN_length]
  by_cases h1 : m + 4 + sizeN wide < L.length
  · rw [if_pos (by omega), if_pos h1]; rfl
  rw [if_neg (by omega), if_neg h1]
  by_cases h2 : L.length ≤ sizeN wide
  · rw [if_pos (by omega), if_pos h2]; rfl
  rw [if_neg (by omega), if_neg h2, bd (f_Good wide L hL)]
  cases h3 : goodB wide L with
  | false => rw [if_neg (by decide), if_pos rfl]; rfl
  | true =>
    have e : wrap64 ((L.length : Int) - (sizeN wide : Int)) = ((L.length - sizeN wide : Nat) : Int) := by unfold wrap64; omega
    obtain ⟨n, hn⟩ : ∃ n, n = L.length - sizeN wide := ⟨_, rfl⟩
    have hT : ∀ x ∈ L.take n, x < 256 := fun x hx => hL x (List.mem_of_mem_take hx)
    have hg := f_getHead k a wide acfc pfc x y (m : Int) (L.take n) hT (by rw [List.length_take]; omega)
    rw [if_pos rfl, if_neg (show ¬ (true = false) by decide), e, ← hn, if_pos (by omega), if_pos (by omega), Int.toNat_natCast, ofN_take, bd hg, ofN_length]
    have hle := getHead_le acfc pfc (L.take n)
    generalize hH : getHead acfc pfc (L.take n) = t at hle ⊢
    obtain ⟨t1, t2, t3⟩ := t
    simp only at hle
    have key : ∀ (u : Int × Int × Int), u = ((t1 : Int), (t2 : Int), (t3 : Int)) → (if u.2.2 = 0 then (if 0 ≤ u.2.1 then (if u.2.1 ≤ ((L.take n).length : Int) then ((slices_Clone_byte_byte.f ((ofN (L.take n)).drop u.2.1.toNat)).bind fun t115 => (if (t115.length : Int) > (m : Int) then (some (0, ([] : List Int), 3)) else (some (u.1, t115, 0)))) else (none)) else (none)) else (some (0, ([] : List Int), u.2.2))) = (if ((t3 : Nat) : Int) = 0 then (if 0 ≤ ((t2 : Nat) : Int) then (if ((t2 : Nat) : Int) ≤ ((L.take n).length : Int) then ((slices_Clone_byte_byte.f ((ofN (L.take n)).drop ((t2 : Nat) : Int).toNat)).bind fun t115 => (if (t115.length : Int) > (m : Int) then (some (0, ([] : List Int), 3)) else (some (((t1 : Nat) : Int), t115, 0)))) else (none)) else (none)) else (some (0, ([] : List Int), ((t3 : Nat) : Int)))) := by rintro u rfl; rfl
    refine (key _ rfl).trans ?_
    clear key
    show _ = some (tri2 (if t3 ≠ 0 then (0, [], t3) else if m < ((L.take n).drop t2).length then (0, [], 3) else (t1, (L.take n).drop t2, 0)))
    by_cases h4 : t3 = 0
    · have hle := hle h4
      rw [if_pos (show ((t3 : Nat) : Int) = 0 by omega), if_pos (by omega), if_pos (by omega), if_neg (show ¬ (t3 ≠ 0) by simp [h4]), Int.toNat_natCast, ofN_drop, bd (clone_f _ (by rw [List.length_drop, List.length_take]; omega)), ofN_length]
      by_cases h5 : m < ((L.take n).drop t2).length
      · rw [if_pos (by omega), if_pos h5]; rfl
      · rw [if_neg (by omega), if_neg h5]; rfl
    · rw [if_neg (show ¬ ((t3 : Nat) : Int) = 0 by omega), if_pos (by simp [h4])]; rfl
end Go.Proofs.YtggpejjfgphihaaDoor.Pu
end

section
namespace Go.Proofs.YtggpejjfgphihaaDoor.Pu
open Go.RowKit Go.Proofs.YtggpejjfgphihaaDoorW.PrintWords Go.Proofs.YtggpejjfgphihaaDoorW.PrintLast Go.Proofs.YtggpejjfgphihaaDoorW.PrintMore
open Go.Proofs.YtggpejjfgphihaaDoor.Given Go.Proofs.YtggpejjfgphihaaDoor.D Go.Proofs.YtggpejjfgphihaaDoor.H Go.Proofs.YtggpejjfgphihaaDoor.E
set_option linter.unusedVariables false
set_option linter.unusedSimpArgs false
theorem right_odd11 {p : Nat} (h : right p = true) : p % 2 = 1 ∧ p / 256 % 2 = 0 ∧ p ≠ 255 := by
  simpa [right, and_assoc] using h
theorem getN_num11 (p : Nat) (hp : p < 65536) (hr : right p = true) (pfc pfc' : Bool) (hle : pfc = true → pfc' = true) (B : List Nat) : getN (numN p pfc ++ B) pfc' = (p, (numN p pfc).length, 0) := by
  obtain ⟨h1, h2, h3⟩ := right_odd11 hr
  unfold numN
  split
  · rename_i h
    have e : p % 256 = p := Nat.mod_eq_of_lt h.2
    simp [getN, e, h1, hr, hle h.1]
  · have e : 256 * (p / 256) + p % 256 = p := by omega
    simp [getN, h2, e, hr]
theorem begins_num11 (p : Nat) (hp : p < 65536) (hr : right p = true) (pfc : Bool) (B : List Nat) : begins (numN p pfc ++ B) = false := by
  obtain ⟨h1, h2, h3⟩ := right_odd11 hr
  unfold numN
  split
  · rename_i h
    have e : p % 256 = p := Nat.mod_eq_of_lt h.2
    rw [e]
    cases B with
    | nil => simp [begins]
    | cons b B => simp [begins, h3]
  · have : p / 256 ≠ 255 := by omega
    simp [begins, this]
theorem getHead_back11 (p : Nat) (hp : p < 65536) (hr : right p = true) (a a' b b' : Bool) (ha : a = true → a' = true) (hb : b = true → b' = true) (B : List Nat) : getHead a' b' (headN a b p ++ B) = (p, (headN a b p).length, 0) := by
  unfold headN
  split
  · rename_i h
    unfold getHead
    rw [begins_num11 p hp hr b B, ha h.1]
    simp only [Bool.true_eq_false, and_false, if_false, Bool.false_eq_true, getN_num11 p hp hr b b' hb B]
    simp
  · have hbe : begins (255 :: 3 :: numN p (b && decide (p ≠ 49185)) ++ B) = true := by simp [begins]
    unfold getHead
    rw [hbe]
    have hd : (255 :: 3 :: numN p (b && decide (p ≠ 49185)) ++ B).drop 2 = numN p (b && decide (p ≠ 49185)) ++ B := rfl
    simp only [Bool.true_eq_false, false_and, if_false, if_true, hd, getN_num11 p hp hr (b && decide (p ≠ 49185)) b' (fun h => hb (by simp at h; exact h.1)) B]
    simp; omega
theorem parse_back (wide a b a' b' : Bool) (ha : a = true → a' = true) (hb : b = true → b' = true) (p : Nat) (hp : p < 65536) (hr : right p = true) (B : List Nat) (hB : ∀ x ∈ B, x < 256) (m : Nat) (hm : B.length ≤ m) :
    parseN wide a' b' m (frameN wide a b p B) = (p, B, 0) := by
  have hl := frameN_len wide a b p B
  have hh := headN_le a b p
  have hg : goodB wide (frameN wide a b p B) = true := goodB_trailer wide _ (headB_lt a b p hp B hB)
  have ht : (frameN wide a b p B).take ((frameN wide a b p B).length - sizeN wide) = headN a b p ++ B := by
    unfold frameN at hl ⊢
    rw [hl, show (headN a b p).length + B.length + sizeN wide - sizeN wide = (headN a b p ++ B).length by rw [List.length_append]; omega, List.take_left]
  unfold parseN
  rw [ht, getHead_back11 p hp hr a a' b b' ha hb B, hg, if_neg (by omega), if_neg (by omega), if_neg (by decide), if_neg (by simp)]
  simp only [List.drop_left]
  rw [if_neg (by omega)]
end Go.Proofs.YtggpejjfgphihaaDoor.Pu
end

section
namespace Go.Proofs.YtggpejjfgphihaaDoor.C
open Go.Proofs.YtggpejjfgphihaaDoor.Given Go.RowKit Go.Proofs.YtggpejjfgphihaaDoorW.PrintWords Go.Proofs.YtggpejjfgphihaaDoorW.PrintLast Go.Proofs.YtggpejjfgphihaaDoorW.PrintMore
attribute [local go_sem] max2_int min2_int max_two min_two max_three min_three max_four min_four
set_option linter.unusedVariables false
set_option linter.unusedSimpArgs false
mutual
def config_Fits.j0 : Nat → Bool → Bool → Bool → Bool → Bool → Int → Int → Int → Bool → Bool → Bool → Bool → Int → Int → Int → Option (Bool)
  | 0, _, _, _, _, _, _, _, _, _, _, _, _, _, _, _ => none
  | k + 1, x5, x120000, x120001, x120002, x120003, x120004, x120005, x120006, x121000, x121001, x121002, x121003, x121004, x121005, x121006 => if x5 = true then (some false) else (if x120002 = true then (if x121002 = true then (if x120003 = true then (config_Fits.j1 k (!x121003) x120000 x120001 x120002 x120003 x120004 x120005 x120006 x121000 x121001 x121002 x121003 x121004 x121005 x121006) else (config_Fits.j1 k false x120000 x120001 x120002 x120003 x120004 x120005 x120006 x121000 x121001 x121002 x121003 x121004 x121005 x121006)) else (config_Fits.j1 k true x120000 x120001 x120002 x120003 x120004 x120005 x120006 x121000 x121001 x121002 x121003 x121004 x121005 x121006)) else (if x120003 = true then (config_Fits.j1 k (!x121003) x120000 x120001 x120002 x120003 x120004 x120005 x120006 x121000 x121001 x121002 x121003 x121004 x121005 x121006) else (config_Fits.j1 k false x120000 x120001 x120002 x120003 x120004 x120005 x120006 x121000 x121001 x121002 x121003 x121004 x121005 x121006)))
def config_Fits.j1 : Nat → Bool → Bool → Bool → Bool → Bool → Int → Int → Int → Bool → Bool → Bool → Bool → Int → Int → Int → Option (Bool)
  | 0, _, _, _, _, _, _, _, _, _, _, _, _, _, _, _ => none
  | k + 1, x18, x120000, x120001, x120002, x120003, x120004, x120005, x120006, x121000, x121001, x121002, x121003, x121004, x121005, x121006 => if x18 = true then (some false) else (if x120000 = true then (config_Fits.j2 k false x120000 x120001 x120002 x120003 x120004 x120005 x120006 x121000 x121001 x121002 x121003 x121004 x121005 x121006) else ((accm_Within.f x121005 x120004).bind fun t121 => (config_Fits.j2 k (!t121) x120000 x120001 x120002 x120003 x120004 x120005 x120006 x121000 x121001 x121002 x121003 x121004 x121005 x121006)))
def config_Fits.j2 : Nat → Bool → Bool → Bool → Bool → Bool → Int → Int → Int → Bool → Bool → Bool → Bool → Int → Int → Int → Option (Bool)
  | 0, _, _, _, _, _, _, _, _, _, _, _, _, _, _, _ => none
  | k + 1, x35, x120000, x120001, x120002, x120003, x120004, x120005, x120006, x121000, x121001, x121002, x121003, x121004, x121005, x121006 => if x35 = true then (some false) else (if x120006 > x121006 then (some false) else (some true))
end
def config_Fits.f (k : Nat) (a0_0 : Bool) (a0_1 : Bool) (a0_2 : Bool) (a0_3 : Bool) (a0_4 : Int) (a0_5 : Int) (a0_6 : Int) (a1_0 : Bool) (a1_1 : Bool) (a1_2 : Bool) (a1_3 : Bool) (a1_4 : Int) (a1_5 : Int) (a1_6 : Int) : Option (Bool) := if (a0_0 != a1_0) = true then (config_Fits.j0 k true a0_0 a0_1 a0_2 a0_3 a0_4 a0_5 a0_6 a1_0 a1_1 a1_2 a1_3 a1_4 a1_5 a1_6) else (config_Fits.j0 k (a0_1 != a1_1) a0_0 a0_1 a0_2 a0_3 a0_4 a0_5 a0_6 a1_0 a1_1 a1_2 a1_3 a1_4 a1_5 a1_6)
set_option maxHeartbeats 8000000 in
set_option maxRecDepth 100000 in
theorem config_Fits.calls (k : Nat) (a0_0 : Bool) (a0_1 : Bool) (a0_2 : Bool) (a0_3 : Bool) (a0_4 : Int) (a0_5 : Int) (a0_6 : Int) (a1_0 : Bool) (a1_1 : Bool) (a1_2 : Bool) (a1_3 : Bool) (a1_4 : Int) (a1_5 : Int) (a1_6 : Int) (r : Bool) (w : World) (h : config_Fits.f k a0_0 a0_1 a0_2 a0_3 a0_4 a0_5 a0_6 a1_0 a1_1 a1_2 a1_3 a1_4 a1_5 a1_6 = some r) :
    Calls Tryd.prog 22 #[.agg #[.bool a0_0, .bool a0_1, .bool a0_2, .bool a0_3, .int .u32 a0_4, .int .u32 a0_5, .int .i64 a0_6], .agg #[.bool a1_0, .bool a1_1, .bool a1_2, .bool a1_3, .int .u32 a1_4, .int .u32 a1_5, .int .i64 a1_6]] w fun e w' => e = .returned (.bool r) ∧ Below w.heap.size w w' := by
  have hu26 := Tryd.underlying26
  have HB := Aside0.mk (Below.refl w.heap.size w)
  have H : (if (a0_0 != a1_0) = true then (config_Fits.j0 k true a0_0 a0_1 a0_2 a0_3 a0_4 a0_5 a0_6 a1_0 a1_1 a1_2 a1_3 a1_4 a1_5 a1_6) else (config_Fits.j0 k (a0_1 != a1_1) a0_0 a0_1 a0_2 a0_3 a0_4 a0_5 a0_6 a1_0 a1_1 a1_2 a1_3 a1_4 a1_5 a1_6)) = some r := h
  clear h
  have HC3 := Aside0.mk H
  clear H
  go_enter Tryd.func22, Tryd.ntmps22
  go_upto_region 2 with (first | ((with_reducible refine gate_dst (N := 2) rfl ?_); refine box_event ?hg (N := 2) ?hd (cs := #[.bool a0_0, .bool a0_1, .bool a0_2, .bool a0_3, .int .u32 a0_4, .int .u32 a0_5, .int .i64 a0_6]) (t := 26) ?hr ?_; (case hd => rfl); (case hg => rfl); (case hr => first | (go_simp; done) | (go_simp; rfl)); intro gb119 hg w4 hbox hb; have n0_ := Aside0.mk (below_step (by repeat (first | (with_reducible first | exact HB.out | apply below_alloc | apply pw_below_drewN | apply below_drew1) | exact HB.out)) hb); have n1_ := Aside0.mk (hbox); have n2_ := Aside0.mk ((by rw [hg]; exact (below_size (by repeat (first | (with_reducible first | exact HB.out | apply below_alloc | apply pw_below_drewN | apply below_drew1) | exact HB.out))) : w.heap.size ≤ gb119)); have n3_ := Aside0.mk ((by rw [hg]; exact (below_size (by repeat (first | (with_reducible first | exact HB.out | apply below_alloc | apply pw_below_drewN | apply below_drew1) | exact HB.out))) : w.heap.size ≤ gb119)); clear HB; have HB := n0_; have BK119 := n1_; have GW119 := n2_; have GE119 := n3_; clear n0_ n1_ n2_ n3_; clear hb hbox hg) | ((with_reducible refine gate_dst (N := 3) rfl ?_); refine box_event ?hg (N := 3) ?hd (cs := #[.bool a1_0, .bool a1_1, .bool a1_2, .bool a1_3, .int .u32 a1_4, .int .u32 a1_5, .int .i64 a1_6]) (t := 26) ?hr ?_; (case hd => rfl); (case hg => rfl); (case hr => first | (go_simp; done) | (go_simp; rfl)); intro gb120 hg w5 hbox hb; have n0_ := Aside0.mk (blk_below (g := gb119) (o := .cells #[.bool a0_0, .bool a0_1, .bool a0_2, .bool a0_3, .int .u32 a0_4, .int .u32 a0_5, .int .i64 a0_6] 26 (0, 0)) (by (with_reducible repeat (first | refine blk_drewN ?_ _ | refine blk_drew ?_ | refine blk_alloc ?_ _)); exact BK119.out) hb); have n1_ := Aside0.mk (below_step (by repeat (first | (with_reducible first | exact HB.out | apply below_alloc | apply pw_below_drewN | apply below_drew1 | refine below_set ?_ GE119.out) | exact HB.out)) hb); have n2_ := Aside0.mk (hbox); have n3_ := Aside0.mk ((by rw [hg]; exact (below_size (by repeat (first | (with_reducible first | exact HB.out | apply below_alloc | apply pw_below_drewN | apply below_drew1 | refine below_set ?_ GE119.out) | exact HB.out))) : w.heap.size ≤ gb120)); have n4_ := Aside0.mk ((by rw [hg]; exact (below_size (by repeat (first | (with_reducible first | exact HB.out | apply below_alloc | apply pw_below_drewN | apply below_drew1 | refine below_set ?_ GE119.out) | exact HB.out))) : w.heap.size ≤ gb120)); have n5_ := Aside0.mk ((by rw [hg]; exact Nat.ne_of_lt (blk_lt (g := gb119) (o := .cells #[.bool a0_0, .bool a0_1, .bool a0_2, .bool a0_3, .int .u32 a0_4, .int .u32 a0_5, .int .i64 a0_6] 26 (0, 0)) (by (with_reducible repeat (first | refine blk_drewN ?_ _ | refine blk_drew ?_ | refine blk_alloc ?_ _)); exact BK119.out)) : gb119 ≠ gb120)); have n6_ := Aside0.mk ((by rw [hg]; exact Nat.ne_of_gt (blk_lt (g := gb119) (o := .cells #[.bool a0_0, .bool a0_1, .bool a0_2, .bool a0_3, .int .u32 a0_4, .int .u32 a0_5, .int .i64 a0_6] 26 (0, 0)) (by (with_reducible repeat (first | refine blk_drewN ?_ _ | refine blk_drew ?_ | refine blk_alloc ?_ _)); exact BK119.out)) : gb120 ≠ gb119)); clear BK119; clear HB; have BK119 := n0_; have HB := n1_; have BK120 := n2_; have GW120 := n3_; have GE120 := n4_; have NB119_120 := n5_; have NB120_119 := n6_; clear n0_ n1_ n2_ n3_ n4_ n5_ n6_; clear hb hbox hg))
  (try simp only [Act.put, List.setIfInBounds_toArray, List.set_cons_zero, List.set_cons_succ])
  go_cut [5] (fun v5 wc => ∃ (kq : Nat) (x5_2 : Bool), v5 = .bool x5_2 ∧ Aside0 (config_Fits.j0 kq x5_2 a0_0 a0_1 a0_2 a0_3 a0_4 a0_5 a0_6 a1_0 a1_1 a1_2 a1_3 a1_4 a1_5 a1_6 = some r) ∧ Aside0 (kq ≤ k) ∧ Aside0 (wc.heap[gb119]? = some (.cells #[.bool a0_0, .bool a0_1, .bool a0_2, .bool a0_3, .int .u32 a0_4, .int .u32 a0_5, .int .i64 a0_6] 26 (0, 0))) ∧ Aside0 (wc.heap[gb120]? = some (.cells #[.bool a1_0, .bool a1_1, .bool a1_2, .bool a1_3, .int .u32 a1_4, .int .u32 a1_5, .int .i64 a1_6] 26 (0, 0))) ∧ Aside0 (Below w.heap.size w wc))
  case first =>
    have H := HC3.out
    clear HC3
    by_cases c6 : (a0_0 != a1_0) = true
    · rw [if_pos c6] at H
      have c6b0 : (a0_0 != a1_0) = true := c6
      (try (have c6b1 : decide (a0_0 = a1_0) = false := by simpa using c6))
      (try (have c6b2 : (a0_0 == a1_0) = false := by simpa using c6))
      (try (have c6b3 : ¬ (a0_0 = a1_0) := by simpa using c6))
      clear c6
      (first | rw [c6b0] | (simp only [i64_w, i32_w]; rw [c6b0]) | skip)
      have H' := Aside0.mk H
      clear H
      have hnb7 := NB119_120.out
      have hnc7 := NB120_119.out
      have hcz8_0 : w5.cell? ⟨gb119, 0, none⟩ = some (.bool a0_0) := (blk_cell BK119.out 0).trans rfl
      have hcz8_1 : w5.cell? ⟨gb119, 1, none⟩ = some (.bool a0_1) := (blk_cell BK119.out 1).trans rfl
      have hcz8_2 : w5.cell? ⟨gb119, 2, none⟩ = some (.bool a0_2) := (blk_cell BK119.out 2).trans rfl
      have hcz8_3 : w5.cell? ⟨gb119, 3, none⟩ = some (.bool a0_3) := (blk_cell BK119.out 3).trans rfl
      have hcz8_4 : w5.cell? ⟨gb119, 4, none⟩ = some (.int .u32 a0_4) := (blk_cell BK119.out 4).trans rfl
      have hcz8_5 : w5.cell? ⟨gb119, 5, none⟩ = some (.int .u32 a0_5) := (blk_cell BK119.out 5).trans rfl
      have hcz8_6 : w5.cell? ⟨gb119, 6, none⟩ = some (.int .i64 a0_6) := (blk_cell BK119.out 6).trans rfl
      have hfz8_0 := blk_frozen BK119.out 0
      have hfz8_1 := blk_frozen BK119.out 1
      have hfz8_2 := blk_frozen BK119.out 2
      have hfz8_3 := blk_frozen BK119.out 3
      have hfz8_4 := blk_frozen BK119.out 4
      have hfz8_5 := blk_frozen BK119.out 5
      have hfz8_6 := blk_frozen BK119.out 6
      have hcz9_0 : w5.cell? ⟨gb120, 0, none⟩ = some (.bool a1_0) := (blk_cell BK120.out 0).trans rfl
      have hcz9_1 : w5.cell? ⟨gb120, 1, none⟩ = some (.bool a1_1) := (blk_cell BK120.out 1).trans rfl
      have hcz9_2 : w5.cell? ⟨gb120, 2, none⟩ = some (.bool a1_2) := (blk_cell BK120.out 2).trans rfl
      have hcz9_3 : w5.cell? ⟨gb120, 3, none⟩ = some (.bool a1_3) := (blk_cell BK120.out 3).trans rfl
      have hcz9_4 : w5.cell? ⟨gb120, 4, none⟩ = some (.int .u32 a1_4) := (blk_cell BK120.out 4).trans rfl
      have hcz9_5 : w5.cell? ⟨gb120, 5, none⟩ = some (.int .u32 a1_5) := (blk_cell BK120.out 5).trans rfl
      have hcz9_6 : w5.cell? ⟨gb120, 6, none⟩ = some (.int .i64 a1_6) := (blk_cell BK120.out 6).trans rfl
      have hfz9_0 := blk_frozen BK120.out 0
      have hfz9_1 := blk_frozen BK120.out 1
      have hfz9_2 := blk_frozen BK120.out 2
      have hfz9_3 := blk_frozen BK120.out 3
      have hfz9_4 := blk_frozen BK120.out 4
      have hfz9_5 := blk_frozen BK120.out 5
      have hfz9_6 := blk_frozen BK120.out 6
      go_wp2
      go_meet
      case rel => exact ⟨_, (true), (by first | rfl | (simp; done) | (simp [*]; done)), H', ⟨by first | omega | exact Nat.le_refl _⟩, ⟨by (with_reducible repeat (first | refine blk_drewN ?_ _ | refine blk_drew ?_ | refine blk_alloc ?_ _)); exact BK119.out⟩, ⟨by (with_reducible repeat (first | refine blk_drewN ?_ _ | refine blk_drew ?_ | refine blk_alloc ?_ _)); exact BK120.out⟩, ⟨by repeat (first | (with_reducible first | exact HB.out | apply below_alloc | apply pw_below_drewN | apply below_drew1 | refine below_set ?_ GE119.out | refine below_set ?_ GE120.out) | exact HB.out)⟩⟩
    · rw [if_neg c6] at H
      have c6b0 : (a0_0 != a1_0) = false := by simpa using c6
      (try (have c6b1 : decide (a0_0 = a1_0) = true := by simpa using c6))
      (try (have c6b2 : (a0_0 == a1_0) = true := by simpa using c6))
      clear c6
      (first | rw [c6b0] | (simp only [i64_w, i32_w]; rw [c6b0]) | skip)
      have H' := Aside0.mk H
      clear H
      have hnb10 := NB119_120.out
      have hnc10 := NB120_119.out
      have hcz11_0 : w5.cell? ⟨gb119, 0, none⟩ = some (.bool a0_0) := (blk_cell BK119.out 0).trans rfl
      have hcz11_1 : w5.cell? ⟨gb119, 1, none⟩ = some (.bool a0_1) := (blk_cell BK119.out 1).trans rfl
      have hcz11_2 : w5.cell? ⟨gb119, 2, none⟩ = some (.bool a0_2) := (blk_cell BK119.out 2).trans rfl
      have hcz11_3 : w5.cell? ⟨gb119, 3, none⟩ = some (.bool a0_3) := (blk_cell BK119.out 3).trans rfl
      have hcz11_4 : w5.cell? ⟨gb119, 4, none⟩ = some (.int .u32 a0_4) := (blk_cell BK119.out 4).trans rfl
      have hcz11_5 : w5.cell? ⟨gb119, 5, none⟩ = some (.int .u32 a0_5) := (blk_cell BK119.out 5).trans rfl
      have hcz11_6 : w5.cell? ⟨gb119, 6, none⟩ = some (.int .i64 a0_6) := (blk_cell BK119.out 6).trans rfl
      have hfz11_0 := blk_frozen BK119.out 0
      have hfz11_1 := blk_frozen BK119.out 1
      have hfz11_2 := blk_frozen BK119.out 2
      have hfz11_3 := blk_frozen BK119.out 3
      have hfz11_4 := blk_frozen BK119.out 4
      have hfz11_5 := blk_frozen BK119.out 5
      have hfz11_6 := blk_frozen BK119.out 6
      have hcz12_0 : w5.cell? ⟨gb120, 0, none⟩ = some (.bool a1_0) := (blk_cell BK120.out 0).trans rfl
      have hcz12_1 : w5.cell? ⟨gb120, 1, none⟩ = some (.bool a1_1) := (blk_cell BK120.out 1).trans rfl
      have hcz12_2 : w5.cell? ⟨gb120, 2, none⟩ = some (.bool a1_2) := (blk_cell BK120.out 2).trans rfl
      have hcz12_3 : w5.cell? ⟨gb120, 3, none⟩ = some (.bool a1_3) := (blk_cell BK120.out 3).trans rfl
      have hcz12_4 : w5.cell? ⟨gb120, 4, none⟩ = some (.int .u32 a1_4) := (blk_cell BK120.out 4).trans rfl
      have hcz12_5 : w5.cell? ⟨gb120, 5, none⟩ = some (.int .u32 a1_5) := (blk_cell BK120.out 5).trans rfl
      have hcz12_6 : w5.cell? ⟨gb120, 6, none⟩ = some (.int .i64 a1_6) := (blk_cell BK120.out 6).trans rfl
      have hfz12_0 := blk_frozen BK120.out 0
      have hfz12_1 := blk_frozen BK120.out 1
      have hfz12_2 := blk_frozen BK120.out 2
      have hfz12_3 := blk_frozen BK120.out 3
      have hfz12_4 := blk_frozen BK120.out 4
      have hfz12_5 := blk_frozen BK120.out 5
      have hfz12_6 := blk_frozen BK120.out 6
      go_wp2
      go_meet
      case rel => exact ⟨_, ((a0_1 != a1_1)), (by first | rfl | (simp; done) | (simp [*]; done)), H', ⟨by first | omega | exact Nat.le_refl _⟩, ⟨by (with_reducible repeat (first | refine blk_drewN ?_ _ | refine blk_drew ?_ | refine blk_alloc ?_ _)); exact BK119.out⟩, ⟨by (with_reducible repeat (first | refine blk_drewN ?_ _ | refine blk_drew ?_ | refine blk_alloc ?_ _)); exact BK120.out⟩, ⟨by repeat (first | (with_reducible first | exact HB.out | apply below_alloc | apply pw_below_drewN | apply below_drew1 | refine below_set ?_ GE119.out | refine below_set ?_ GE120.out) | exact HB.out)⟩⟩
  case rest =>
    clear HC3
    try clear c1
    try clear c2
    try clear p2
    try clear c6
    try clear c6b0
    try clear c6b1
    try clear c6b2
    try clear c7
    try clear c10
    try clear hcz11_0
    try clear hcz11_1
    try clear hcz11_2
    try clear hcz11_3
    try clear hcz11_4
    try clear hcz11_5
    try clear hcz11_6
    try clear hcz12_0
    try clear hcz12_1
    try clear hcz12_2
    try clear hcz12_3
    try clear hcz12_4
    try clear hcz12_5
    try clear hcz12_6
    try clear hcz8_0
    try clear hcz8_1
    try clear hcz8_2
    try clear hcz8_3
    try clear hcz8_4
    try clear hcz8_5
    try clear hcz8_6
    try clear hcz9_0
    try clear hcz9_1
    try clear hcz9_2
    try clear hcz9_3
    try clear hcz9_4
    try clear hcz9_5
    try clear hcz9_6
    try clear hfz11_0
    try clear hfz11_1
    try clear hfz11_2
    try clear hfz11_3
    try clear hfz11_4
    try clear hfz11_5
    try clear hfz11_6
    try clear hfz12_0
    try clear hfz12_1
    try clear hfz12_2
    try clear hfz12_3
    try clear hfz12_4
    try clear hfz12_5
    try clear hfz12_6
    try clear hfz8_0
    try clear hfz8_1
    try clear hfz8_2
    try clear hfz8_3
    try clear hfz8_4
    try clear hfz8_5
    try clear hfz8_6
    try clear hfz9_0
    try clear hfz9_1
    try clear hfz9_2
    try clear hfz9_3
    try clear hfz9_4
    try clear hfz9_5
    try clear hfz9_6
    obtain ⟨kq, x5_2, rfl, HA, HJ2, BK119, BK120, HB⟩ := hcut
    cases kq with
    | zero => exact absurd HA.out (by simp [config_Fits.j0])
    | succ kj2 =>
      have H := HA.out
      clear HA
      simp only [config_Fits.j0] at H
      by_cases c13 : x5_2 = true
      · subst c13
        have H1 : (some false) = some r := by rw [if_pos rfl] at H; exact H
        clear H
        have H := H1
        clear H1
        obtain rfl := Option.some.inj H
        go_wp2
        go_ret
        exact ⟨by first | rfl | (simp [errW_none, errW_some] <;> rfl) | (simp [*, errW_none, errW_some] <;> rfl), by repeat (first | (with_reducible first | exact HB.out | apply below_alloc | apply pw_below_drewN | apply below_drew1 | refine below_set ?_ GE119.out | refine below_set ?_ GE120.out) | exact HB.out)⟩
      · replace c13 := Bool.eq_false_iff.mpr c13
        subst c13
        have H1 : (if a0_2 = true then (if a1_2 = true then (if a0_3 = true then (config_Fits.j1 kj2 (!a1_3) a0_0 a0_1 a0_2 a0_3 a0_4 a0_5 a0_6 a1_0 a1_1 a1_2 a1_3 a1_4 a1_5 a1_6) else (config_Fits.j1 kj2 false a0_0 a0_1 a0_2 a0_3 a0_4 a0_5 a0_6 a1_0 a1_1 a1_2 a1_3 a1_4 a1_5 a1_6)) else (config_Fits.j1 kj2 true a0_0 a0_1 a0_2 a0_3 a0_4 a0_5 a0_6 a1_0 a1_1 a1_2 a1_3 a1_4 a1_5 a1_6)) else (if a0_3 = true then (config_Fits.j1 kj2 (!a1_3) a0_0 a0_1 a0_2 a0_3 a0_4 a0_5 a0_6 a1_0 a1_1 a1_2 a1_3 a1_4 a1_5 a1_6) else (config_Fits.j1 kj2 false a0_0 a0_1 a0_2 a0_3 a0_4 a0_5 a0_6 a1_0 a1_1 a1_2 a1_3 a1_4 a1_5 a1_6))) = some r := by rw [if_neg (show ¬ (false = true) by decide)] at H; exact H
        clear H
        have H := H1
        clear H1
        have HC14 := Aside0.mk H
        clear H
        go_upto_region 3 with (fail)
        go_cut [18] (fun v18 wc => ∃ (kq : Nat) (x18_13 : Bool), v18 = .bool x18_13 ∧ Aside0 (config_Fits.j1 kq x18_13 a0_0 a0_1 a0_2 a0_3 a0_4 a0_5 a0_6 a1_0 a1_1 a1_2 a1_3 a1_4 a1_5 a1_6 = some r) ∧ Aside0 (kq ≤ kj2) ∧ Aside0 (wc.heap[gb119]? = some (.cells #[.bool a0_0, .bool a0_1, .bool a0_2, .bool a0_3, .int .u32 a0_4, .int .u32 a0_5, .int .i64 a0_6] 26 (0, 0))) ∧ Aside0 (wc.heap[gb120]? = some (.cells #[.bool a1_0, .bool a1_1, .bool a1_2, .bool a1_3, .int .u32 a1_4, .int .u32 a1_5, .int .i64 a1_6] 26 (0, 0))) ∧ Aside0 (Below w.heap.size w wc))
        case first =>
          have H := HC14.out
          clear HC14
          by_cases c15 : a0_2 = true
          · subst c15
            have H1 : (if a1_2 = true then (if a0_3 = true then (config_Fits.j1 kj2 (!a1_3) a0_0 a0_1 true a0_3 a0_4 a0_5 a0_6 a1_0 a1_1 a1_2 a1_3 a1_4 a1_5 a1_6) else (config_Fits.j1 kj2 false a0_0 a0_1 true a0_3 a0_4 a0_5 a0_6 a1_0 a1_1 a1_2 a1_3 a1_4 a1_5 a1_6)) else (config_Fits.j1 kj2 true a0_0 a0_1 true a0_3 a0_4 a0_5 a0_6 a1_0 a1_1 a1_2 a1_3 a1_4 a1_5 a1_6)) = some r := by rw [if_pos rfl] at H; exact H
            clear H
            have H := H1
            clear H1
            by_cases c16 : a1_2 = true
            · subst c16
              have H1 : (if a0_3 = true then (config_Fits.j1 kj2 (!a1_3) a0_0 a0_1 true a0_3 a0_4 a0_5 a0_6 a1_0 a1_1 true a1_3 a1_4 a1_5 a1_6) else (config_Fits.j1 kj2 false a0_0 a0_1 true a0_3 a0_4 a0_5 a0_6 a1_0 a1_1 true a1_3 a1_4 a1_5 a1_6)) = some r := by rw [if_pos rfl] at H; exact H
              clear H
              have H := H1
              clear H1
              by_cases c17 : a0_3 = true
              · subst c17
                have H1 : (config_Fits.j1 kj2 (!a1_3) a0_0 a0_1 true true a0_4 a0_5 a0_6 a1_0 a1_1 true a1_3 a1_4 a1_5 a1_6) = some r := by rw [if_pos rfl] at H; exact H
                clear H
                have H := H1
                clear H1
                have H' := Aside0.mk H
                clear H
                have hnb18 := NB119_120.out
                have hnc18 := NB120_119.out
                have hcz19_0 : wc.cell? ⟨gb119, 0, none⟩ = some (.bool a0_0) := (blk_cell BK119.out 0).trans rfl
                have hcz19_1 : wc.cell? ⟨gb119, 1, none⟩ = some (.bool a0_1) := (blk_cell BK119.out 1).trans rfl
                have hcz19_2 : wc.cell? ⟨gb119, 2, none⟩ = some (.bool true) := (blk_cell BK119.out 2).trans rfl
                have hcz19_3 : wc.cell? ⟨gb119, 3, none⟩ = some (.bool true) := (blk_cell BK119.out 3).trans rfl
                have hcz19_4 : wc.cell? ⟨gb119, 4, none⟩ = some (.int .u32 a0_4) := (blk_cell BK119.out 4).trans rfl
                have hcz19_5 : wc.cell? ⟨gb119, 5, none⟩ = some (.int .u32 a0_5) := (blk_cell BK119.out 5).trans rfl
                have hcz19_6 : wc.cell? ⟨gb119, 6, none⟩ = some (.int .i64 a0_6) := (blk_cell BK119.out 6).trans rfl
                have hfz19_0 := blk_frozen BK119.out 0
                have hfz19_1 := blk_frozen BK119.out 1
                have hfz19_2 := blk_frozen BK119.out 2
                have hfz19_3 := blk_frozen BK119.out 3
                have hfz19_4 := blk_frozen BK119.out 4
                have hfz19_5 := blk_frozen BK119.out 5
                have hfz19_6 := blk_frozen BK119.out 6
                have hcz20_0 : wc.cell? ⟨gb120, 0, none⟩ = some (.bool a1_0) := (blk_cell BK120.out 0).trans rfl
                have hcz20_1 : wc.cell? ⟨gb120, 1, none⟩ = some (.bool a1_1) := (blk_cell BK120.out 1).trans rfl
                have hcz20_2 : wc.cell? ⟨gb120, 2, none⟩ = some (.bool true) := (blk_cell BK120.out 2).trans rfl
                have hcz20_3 : wc.cell? ⟨gb120, 3, none⟩ = some (.bool a1_3) := (blk_cell BK120.out 3).trans rfl
                have hcz20_4 : wc.cell? ⟨gb120, 4, none⟩ = some (.int .u32 a1_4) := (blk_cell BK120.out 4).trans rfl
                have hcz20_5 : wc.cell? ⟨gb120, 5, none⟩ = some (.int .u32 a1_5) := (blk_cell BK120.out 5).trans rfl
                have hcz20_6 : wc.cell? ⟨gb120, 6, none⟩ = some (.int .i64 a1_6) := (blk_cell BK120.out 6).trans rfl
                have hfz20_0 := blk_frozen BK120.out 0
                have hfz20_1 := blk_frozen BK120.out 1
                have hfz20_2 := blk_frozen BK120.out 2
                have hfz20_3 := blk_frozen BK120.out 3
                have hfz20_4 := blk_frozen BK120.out 4
                have hfz20_5 := blk_frozen BK120.out 5
                have hfz20_6 := blk_frozen BK120.out 6
                go_wp2
                go_meet
                case rel => exact ⟨_, (!a1_3), (by first | rfl | (simp; done) | (simp [*]; done)), H', ⟨by have := HJ2.out; first | omega | exact Nat.le_refl _⟩, ⟨by (with_reducible repeat (first | refine blk_drewN ?_ _ | refine blk_drew ?_ | refine blk_alloc ?_ _)); exact BK119.out⟩, ⟨by (with_reducible repeat (first | refine blk_drewN ?_ _ | refine blk_drew ?_ | refine blk_alloc ?_ _)); exact BK120.out⟩, ⟨by repeat (first | (with_reducible first | exact HB.out | apply below_alloc | apply pw_below_drewN | apply below_drew1 | refine below_set ?_ GE119.out | refine below_set ?_ GE120.out) | exact HB.out)⟩⟩
              · replace c17 := Bool.eq_false_iff.mpr c17
                subst c17
                have H1 : (config_Fits.j1 kj2 false a0_0 a0_1 true false a0_4 a0_5 a0_6 a1_0 a1_1 true a1_3 a1_4 a1_5 a1_6) = some r := by rw [if_neg (show ¬ (false = true) by decide)] at H; exact H
                clear H
                have H := H1
                clear H1
                have H' := Aside0.mk H
                clear H
                have hnb21 := NB119_120.out
                have hnc21 := NB120_119.out
                have hcz22_0 : wc.cell? ⟨gb119, 0, none⟩ = some (.bool a0_0) := (blk_cell BK119.out 0).trans rfl
                have hcz22_1 : wc.cell? ⟨gb119, 1, none⟩ = some (.bool a0_1) := (blk_cell BK119.out 1).trans rfl
                have hcz22_2 : wc.cell? ⟨gb119, 2, none⟩ = some (.bool true) := (blk_cell BK119.out 2).trans rfl
                have hcz22_3 : wc.cell? ⟨gb119, 3, none⟩ = some (.bool false) := (blk_cell BK119.out 3).trans rfl
                have hcz22_4 : wc.cell? ⟨gb119, 4, none⟩ = some (.int .u32 a0_4) := (blk_cell BK119.out 4).trans rfl
                have hcz22_5 : wc.cell? ⟨gb119, 5, none⟩ = some (.int .u32 a0_5) := (blk_cell BK119.out 5).trans rfl
                have hcz22_6 : wc.cell? ⟨gb119, 6, none⟩ = some (.int .i64 a0_6) := (blk_cell BK119.out 6).trans rfl
                have hfz22_0 := blk_frozen BK119.out 0
                have hfz22_1 := blk_frozen BK119.out 1
                have hfz22_2 := blk_frozen BK119.out 2
                have hfz22_3 := blk_frozen BK119.out 3
                have hfz22_4 := blk_frozen BK119.out 4
                have hfz22_5 := blk_frozen BK119.out 5
                have hfz22_6 := blk_frozen BK119.out 6
                have hcz23_0 : wc.cell? ⟨gb120, 0, none⟩ = some (.bool a1_0) := (blk_cell BK120.out 0).trans rfl
                have hcz23_1 : wc.cell? ⟨gb120, 1, none⟩ = some (.bool a1_1) := (blk_cell BK120.out 1).trans rfl
                have hcz23_2 : wc.cell? ⟨gb120, 2, none⟩ = some (.bool true) := (blk_cell BK120.out 2).trans rfl
                have hcz23_3 : wc.cell? ⟨gb120, 3, none⟩ = some (.bool a1_3) := (blk_cell BK120.out 3).trans rfl
                have hcz23_4 : wc.cell? ⟨gb120, 4, none⟩ = some (.int .u32 a1_4) := (blk_cell BK120.out 4).trans rfl
                have hcz23_5 : wc.cell? ⟨gb120, 5, none⟩ = some (.int .u32 a1_5) := (blk_cell BK120.out 5).trans rfl
                have hcz23_6 : wc.cell? ⟨gb120, 6, none⟩ = some (.int .i64 a1_6) := (blk_cell BK120.out 6).trans rfl
                have hfz23_0 := blk_frozen BK120.out 0
                have hfz23_1 := blk_frozen BK120.out 1
                have hfz23_2 := blk_frozen BK120.out 2
                have hfz23_3 := blk_frozen BK120.out 3
                have hfz23_4 := blk_frozen BK120.out 4
                have hfz23_5 := blk_frozen BK120.out 5
                have hfz23_6 := blk_frozen BK120.out 6
                go_wp2
                go_meet
                case rel => exact ⟨_, (false), (by first | rfl | (simp; done) | (simp [*]; done)), H', ⟨by have := HJ2.out; first | omega | exact Nat.le_refl _⟩, ⟨by (with_reducible repeat (first | refine blk_drewN ?_ _ | refine blk_drew ?_ | refine blk_alloc ?_ _)); exact BK119.out⟩, ⟨by (with_reducible repeat (first | refine blk_drewN ?_ _ | refine blk_drew ?_ | refine blk_alloc ?_ _)); exact BK120.out⟩, ⟨by repeat (first | (with_reducible first | exact HB.out | apply below_alloc | apply pw_below_drewN | apply below_drew1 | refine below_set ?_ GE119.out | refine below_set ?_ GE120.out) | exact HB.out)⟩⟩
            · replace c16 := Bool.eq_false_iff.mpr c16
              subst c16
              have H1 : (config_Fits.j1 kj2 true a0_0 a0_1 true a0_3 a0_4 a0_5 a0_6 a1_0 a1_1 false a1_3 a1_4 a1_5 a1_6) = some r := by rw [if_neg (show ¬ (false = true) by decide)] at H; exact H
              clear H
              have H := H1
              clear H1
              have H' := Aside0.mk H
              clear H
              have hnb24 := NB119_120.out
              have hnc24 := NB120_119.out
              have hcz25_0 : wc.cell? ⟨gb119, 0, none⟩ = some (.bool a0_0) := (blk_cell BK119.out 0).trans rfl
              have hcz25_1 : wc.cell? ⟨gb119, 1, none⟩ = some (.bool a0_1) := (blk_cell BK119.out 1).trans rfl
              have hcz25_2 : wc.cell? ⟨gb119, 2, none⟩ = some (.bool true) := (blk_cell BK119.out 2).trans rfl
              have hcz25_3 : wc.cell? ⟨gb119, 3, none⟩ = some (.bool a0_3) := (blk_cell BK119.out 3).trans rfl
              have hcz25_4 : wc.cell? ⟨gb119, 4, none⟩ = some (.int .u32 a0_4) := (blk_cell BK119.out 4).trans rfl
              have hcz25_5 : wc.cell? ⟨gb119, 5, none⟩ = some (.int .u32 a0_5) := (blk_cell BK119.out 5).trans rfl
              have hcz25_6 : wc.cell? ⟨gb119, 6, none⟩ = some (.int .i64 a0_6) := (blk_cell BK119.out 6).trans rfl
              have hfz25_0 := blk_frozen BK119.out 0
              have hfz25_1 := blk_frozen BK119.out 1
              have hfz25_2 := blk_frozen BK119.out 2
              have hfz25_3 := blk_frozen BK119.out 3
              have hfz25_4 := blk_frozen BK119.out 4
              have hfz25_5 := blk_frozen BK119.out 5
              have hfz25_6 := blk_frozen BK119.out 6
              have hcz26_0 : wc.cell? ⟨gb120, 0, none⟩ = some (.bool a1_0) := (blk_cell BK120.out 0).trans rfl
              have hcz26_1 : wc.cell? ⟨gb120, 1, none⟩ = some (.bool a1_1) := (blk_cell BK120.out 1).trans rfl
              have hcz26_2 : wc.cell? ⟨gb120, 2, none⟩ = some (.bool false) := (blk_cell BK120.out 2).trans rfl
              have hcz26_3 : wc.cell? ⟨gb120, 3, none⟩ = some (.bool a1_3) := (blk_cell BK120.out 3).trans rfl
              have hcz26_4 : wc.cell? ⟨gb120, 4, none⟩ = some (.int .u32 a1_4) := (blk_cell BK120.out 4).trans rfl
              have hcz26_5 : wc.cell? ⟨gb120, 5, none⟩ = some (.int .u32 a1_5) := (blk_cell BK120.out 5).trans rfl
              have hcz26_6 : wc.cell? ⟨gb120, 6, none⟩ = some (.int .i64 a1_6) := (blk_cell BK120.out 6).trans rfl
              have hfz26_0 := blk_frozen BK120.out 0
              have hfz26_1 := blk_frozen BK120.out 1
              have hfz26_2 := blk_frozen BK120.out 2
              have hfz26_3 := blk_frozen BK120.out 3
              have hfz26_4 := blk_frozen BK120.out 4
              have hfz26_5 := blk_frozen BK120.out 5
              have hfz26_6 := blk_frozen BK120.out 6
              go_wp2
              go_meet
              case rel => exact ⟨_, (true), (by first | rfl | (simp; done) | (simp [*]; done)), H', ⟨by have := HJ2.out; first | omega | exact Nat.le_refl _⟩, ⟨by (with_reducible repeat (first | refine blk_drewN ?_ _ | refine blk_drew ?_ | refine blk_alloc ?_ _)); exact BK119.out⟩, ⟨by (with_reducible repeat (first | refine blk_drewN ?_ _ | refine blk_drew ?_ | refine blk_alloc ?_ _)); exact BK120.out⟩, ⟨by repeat (first | (with_reducible first | exact HB.out | apply below_alloc | apply pw_below_drewN | apply below_drew1 | refine below_set ?_ GE119.out | refine below_set ?_ GE120.out) | exact HB.out)⟩⟩
          · replace c15 := Bool.eq_false_iff.mpr c15
            subst c15
            have H1 : (if a0_3 = true then (config_Fits.j1 kj2 (!a1_3) a0_0 a0_1 false a0_3 a0_4 a0_5 a0_6 a1_0 a1_1 a1_2 a1_3 a1_4 a1_5 a1_6) else (config_Fits.j1 kj2 false a0_0 a0_1 false a0_3 a0_4 a0_5 a0_6 a1_0 a1_1 a1_2 a1_3 a1_4 a1_5 a1_6)) = some r := by rw [if_neg (show ¬ (false = true) by decide)] at H; exact H
            clear H
            have H := H1
            clear H1
            by_cases c27 : a0_3 = true
            · subst c27
              have H1 : (config_Fits.j1 kj2 (!a1_3) a0_0 a0_1 false true a0_4 a0_5 a0_6 a1_0 a1_1 a1_2 a1_3 a1_4 a1_5 a1_6) = some r := by rw [if_pos rfl] at H; exact H
              clear H
              have H := H1
              clear H1
              have H' := Aside0.mk H
              clear H
              have hnb28 := NB119_120.out
              have hnc28 := NB120_119.out
              have hcz29_0 : wc.cell? ⟨gb119, 0, none⟩ = some (.bool a0_0) := (blk_cell BK119.out 0).trans rfl
              have hcz29_1 : wc.cell? ⟨gb119, 1, none⟩ = some (.bool a0_1) := (blk_cell BK119.out 1).trans rfl
              have hcz29_2 : wc.cell? ⟨gb119, 2, none⟩ = some (.bool false) := (blk_cell BK119.out 2).trans rfl
              have hcz29_3 : wc.cell? ⟨gb119, 3, none⟩ = some (.bool true) := (blk_cell BK119.out 3).trans rfl
              have hcz29_4 : wc.cell? ⟨gb119, 4, none⟩ = some (.int .u32 a0_4) := (blk_cell BK119.out 4).trans rfl
              have hcz29_5 : wc.cell? ⟨gb119, 5, none⟩ = some (.int .u32 a0_5) := (blk_cell BK119.out 5).trans rfl
              have hcz29_6 : wc.cell? ⟨gb119, 6, none⟩ = some (.int .i64 a0_6) := (blk_cell BK119.out 6).trans rfl
              have hfz29_0 := blk_frozen BK119.out 0
              have hfz29_1 := blk_frozen BK119.out 1
              have hfz29_2 := blk_frozen BK119.out 2
              have hfz29_3 := blk_frozen BK119.out 3
              have hfz29_4 := blk_frozen BK119.out 4
              have hfz29_5 := blk_frozen BK119.out 5
              have hfz29_6 := blk_frozen BK119.out 6
              have hcz30_0 : wc.cell? ⟨gb120, 0, none⟩ = some (.bool a1_0) := (blk_cell BK120.out 0).trans rfl
              have hcz30_1 : wc.cell? ⟨gb120, 1, none⟩ = some (.bool a1_1) := (blk_cell BK120.out 1).trans rfl
              have hcz30_2 : wc.cell? ⟨gb120, 2, none⟩ = some (.bool a1_2) := (blk_cell BK120.out 2).trans rfl
              have hcz30_3 : wc.cell? ⟨gb120, 3, none⟩ = some (.bool a1_3) := (blk_cell BK120.out 3).trans rfl
              have hcz30_4 : wc.cell? ⟨gb120, 4, none⟩ = some (.int .u32 a1_4) := (blk_cell BK120.out 4).trans rfl
              have hcz30_5 : wc.cell? ⟨gb120, 5, none⟩ = some (.int .u32 a1_5) := (blk_cell BK120.out 5).trans rfl
              have hcz30_6 : wc.cell? ⟨gb120, 6, none⟩ = some (.int .i64 a1_6) := (blk_cell BK120.out 6).trans rfl
              have hfz30_0 := blk_frozen BK120.out 0
              have hfz30_1 := blk_frozen BK120.out 1
              have hfz30_2 := blk_frozen BK120.out 2
              have hfz30_3 := blk_frozen BK120.out 3
              have hfz30_4 := blk_frozen BK120.out 4
              have hfz30_5 := blk_frozen BK120.out 5
              have hfz30_6 := blk_frozen BK120.out 6
              go_wp2
              go_meet
              case rel => exact ⟨_, (!a1_3), (by first | rfl | (simp; done) | (simp [*]; done)), H', ⟨by have := HJ2.out; first | omega | exact Nat.le_refl _⟩, ⟨by (with_reducible repeat (first | refine blk_drewN ?_ _ | refine blk_drew ?_ | refine blk_alloc ?_ _)); exact BK119.out⟩, ⟨by (with_reducible repeat (first | refine blk_drewN ?_ _ | refine blk_drew ?_ | refine blk_alloc ?_ _)); exact BK120.out⟩, ⟨by repeat (first | (with_reducible first | exact HB.out | apply below_alloc | apply pw_below_drewN | apply below_drew1 | refine below_set ?_ GE119.out | refine below_set ?_ GE120.out) | exact HB.out)⟩⟩
            · replace c27 := Bool.eq_false_iff.mpr c27
              subst c27
              have H1 : (config_Fits.j1 kj2 false a0_0 a0_1 false false a0_4 a0_5 a0_6 a1_0 a1_1 a1_2 a1_3 a1_4 a1_5 a1_6) = some r := by rw [if_neg (show ¬ (false = true) by decide)] at H; exact H
              clear H
              have H := H1
              clear H1
              have H' := Aside0.mk H
              clear H
              have hnb31 := NB119_120.out
              have hnc31 := NB120_119.out
              have hcz32_0 : wc.cell? ⟨gb119, 0, none⟩ = some (.bool a0_0) := (blk_cell BK119.out 0).trans rfl
              have hcz32_1 : wc.cell? ⟨gb119, 1, none⟩ = some (.bool a0_1) := (blk_cell BK119.out 1).trans rfl
              have hcz32_2 : wc.cell? ⟨gb119, 2, none⟩ = some (.bool false) := (blk_cell BK119.out 2).trans rfl
              have hcz32_3 : wc.cell? ⟨gb119, 3, none⟩ = some (.bool false) := (blk_cell BK119.out 3).trans rfl
              have hcz32_4 : wc.cell? ⟨gb119, 4, none⟩ = some (.int .u32 a0_4) := (blk_cell BK119.out 4).trans rfl
              have hcz32_5 : wc.cell? ⟨gb119, 5, none⟩ = some (.int .u32 a0_5) := (blk_cell BK119.out 5).trans rfl
              have hcz32_6 : wc.cell? ⟨gb119, 6, none⟩ = some (.int .i64 a0_6) := (blk_cell BK119.out 6).trans rfl
              have hfz32_0 := blk_frozen BK119.out 0
              have hfz32_1 := blk_frozen BK119.out 1
              have hfz32_2 := blk_frozen BK119.out 2
              have hfz32_3 := blk_frozen BK119.out 3
              have hfz32_4 := blk_frozen BK119.out 4
              have hfz32_5 := blk_frozen BK119.out 5
              have hfz32_6 := blk_frozen BK119.out 6
              go_wp2
              go_meet
              case rel => exact ⟨_, (false), (by first | rfl | (simp; done) | (simp [*]; done)), H', ⟨by have := HJ2.out; first | omega | exact Nat.le_refl _⟩, ⟨by (with_reducible repeat (first | refine blk_drewN ?_ _ | refine blk_drew ?_ | refine blk_alloc ?_ _)); exact BK119.out⟩, ⟨by (with_reducible repeat (first | refine blk_drewN ?_ _ | refine blk_drew ?_ | refine blk_alloc ?_ _)); exact BK120.out⟩, ⟨by repeat (first | (with_reducible first | exact HB.out | apply below_alloc | apply pw_below_drewN | apply below_drew1 | refine below_set ?_ GE119.out | refine below_set ?_ GE120.out) | exact HB.out)⟩⟩
        case rest =>
          clear HC14
          try clear c1
          try clear c2
          try clear p2
          try clear c3
          try clear c6
          try clear c6b0
          try clear c6b1
          try clear c6b2
          try clear c7
          try clear c10
          try clear c13
          try clear c15
          try clear c16
          try clear c17
          try clear c18
          try clear c21
          try clear c22
          try clear c24
          try clear c27
          try clear c28
          try clear c31
          try clear hcz11_0
          try clear hcz11_1
          try clear hcz11_2
          try clear hcz11_3
          try clear hcz11_4
          try clear hcz11_5
          try clear hcz11_6
          try clear hcz12_0
          try clear hcz12_1
          try clear hcz12_2
          try clear hcz12_3
          try clear hcz12_4
          try clear hcz12_5
          try clear hcz12_6
          try clear hcz19_0
          try clear hcz19_1
          try clear hcz19_2
          try clear hcz19_3
          try clear hcz19_4
          try clear hcz19_5
          try clear hcz19_6
          try clear hcz20_0
          try clear hcz20_1
          try clear hcz20_2
          try clear hcz20_3
          try clear hcz20_4
          try clear hcz20_5
          try clear hcz20_6
          try clear hcz22_0
          try clear hcz22_1
          try clear hcz22_2
          try clear hcz22_3
          try clear hcz22_4
          try clear hcz22_5
          try clear hcz22_6
          try clear hcz23_0
          try clear hcz23_1
          try clear hcz23_2
          try clear hcz23_3
          try clear hcz23_4
          try clear hcz23_5
          try clear hcz23_6
          try clear hcz25_0
          try clear hcz25_1
          try clear hcz25_2
          try clear hcz25_3
          try clear hcz25_4
          try clear hcz25_5
          try clear hcz25_6
          try clear hcz26_0
          try clear hcz26_1
          try clear hcz26_2
          try clear hcz26_3
          try clear hcz26_4
          try clear hcz26_5
          try clear hcz26_6
          try clear hcz29_0
          try clear hcz29_1
          try clear hcz29_2
          try clear hcz29_3
          try clear hcz29_4
          try clear hcz29_5
          try clear hcz29_6
          try clear hcz30_0
          try clear hcz30_1
          try clear hcz30_2
          try clear hcz30_3
          try clear hcz30_4
          try clear hcz30_5
          try clear hcz30_6
          try clear hcz32_0
          try clear hcz32_1
          try clear hcz32_2
          try clear hcz32_3
          try clear hcz32_4
          try clear hcz32_5
          try clear hcz32_6
          try clear hcz8_0
          try clear hcz8_1
          try clear hcz8_2
          try clear hcz8_3
          try clear hcz8_4
          try clear hcz8_5
          try clear hcz8_6
          try clear hcz9_0
          try clear hcz9_1
          try clear hcz9_2
          try clear hcz9_3
          try clear hcz9_4
          try clear hcz9_5
          try clear hcz9_6
          try clear hfz11_0
          try clear hfz11_1
          try clear hfz11_2
          try clear hfz11_3
          try clear hfz11_4
          try clear hfz11_5
          try clear hfz11_6
          try clear hfz12_0
          try clear hfz12_1
          try clear hfz12_2
          try clear hfz12_3
          try clear hfz12_4
          try clear hfz12_5
          try clear hfz12_6
          try clear hfz19_0
          try clear hfz19_1
          try clear hfz19_2
          try clear hfz19_3
          try clear hfz19_4
          try clear hfz19_5
          try clear hfz19_6
          try clear hfz20_0
          try clear hfz20_1
          try clear hfz20_2
          try clear hfz20_3
          try clear hfz20_4
          try clear hfz20_5
          try clear hfz20_6
          try clear hfz22_0
          try clear hfz22_1
          try clear hfz22_2
          try clear hfz22_3
          try clear hfz22_4
          try clear hfz22_5
          try clear hfz22_6
          try clear hfz23_0
          try clear hfz23_1
          try clear hfz23_2
          try clear hfz23_3
          try clear hfz23_4
          try clear hfz23_5
          try clear hfz23_6
          try clear hfz25_0
          try clear hfz25_1
          try clear hfz25_2
          try clear hfz25_3
          try clear hfz25_4
          try clear hfz25_5
          try clear hfz25_6
          try clear hfz26_0
          try clear hfz26_1
          try clear hfz26_2
          try clear hfz26_3
          try clear hfz26_4
          try clear hfz26_5
          try clear hfz26_6
          try clear hfz29_0
          try clear hfz29_1
          try clear hfz29_2
          try clear hfz29_3
          try clear hfz29_4
          try clear hfz29_5
          try clear hfz29_6
          try clear hfz30_0
          try clear hfz30_1
          try clear hfz30_2
          try clear hfz30_3
          try clear hfz30_4
          try clear hfz30_5
          try clear hfz30_6
          try clear hfz32_0
          try clear hfz32_1
          try clear hfz32_2
          try clear hfz32_3
          try clear hfz32_4
          try clear hfz32_5
          try clear hfz32_6
          try clear hfz8_0
          try clear hfz8_1
          try clear hfz8_2
          try clear hfz8_3
          try clear hfz8_4
          try clear hfz8_5
          try clear hfz8_6
          try clear hfz9_0
          try clear hfz9_1
          try clear hfz9_2
          try clear hfz9_3
          try clear hfz9_4
          try clear hfz9_5
          try clear hfz9_6
          try clear p2
          obtain ⟨kq, x18_13, rfl, HA, HJ13, BK119, BK120, HB⟩ := hcut
          cases kq with
          | zero => exact absurd HA.out (by simp [config_Fits.j1])
          | succ kj13 =>
            have H := HA.out
            clear HA
            simp only [config_Fits.j1] at H
            by_cases c33 : x18_13 = true
            · subst c33
              have H1 : (some false) = some r := by rw [if_pos rfl] at H; exact H
              clear H
              have H := H1
              clear H1
              obtain rfl := Option.some.inj H
              go_wp2
              go_ret
              exact ⟨by first | rfl | (simp [errW_none, errW_some] <;> rfl) | (simp [*, errW_none, errW_some] <;> rfl), by repeat (first | (with_reducible first | exact HB.out | apply below_alloc | apply pw_below_drewN | apply below_drew1 | refine below_set ?_ GE119.out | refine below_set ?_ GE120.out) | exact HB.out)⟩
            · replace c33 := Bool.eq_false_iff.mpr c33
              subst c33
              have H1 : (if a0_0 = true then (config_Fits.j2 kj13 false a0_0 a0_1 a0_2 a0_3 a0_4 a0_5 a0_6 a1_0 a1_1 a1_2 a1_3 a1_4 a1_5 a1_6) else ((accm_Within.f a1_5 a0_4).bind fun t121 => (config_Fits.j2 kj13 (!t121) a0_0 a0_1 a0_2 a0_3 a0_4 a0_5 a0_6 a1_0 a1_1 a1_2 a1_3 a1_4 a1_5 a1_6))) = some r := by rw [if_neg (show ¬ (false = true) by decide)] at H; exact H
              clear H
              have H := H1
              clear H1
              have HC34 := Aside0.mk H
              clear H
              go_upto_region 4 with (fail)
              go_cut [35] (fun v35 wc => ∃ (kq : Nat) (x35_33 : Bool), v35 = .bool x35_33 ∧ Aside0 (config_Fits.j2 kq x35_33 a0_0 a0_1 a0_2 a0_3 a0_4 a0_5 a0_6 a1_0 a1_1 a1_2 a1_3 a1_4 a1_5 a1_6 = some r) ∧ Aside0 (kq ≤ kj13) ∧ Aside0 (wc.heap[gb119]? = some (.cells #[.bool a0_0, .bool a0_1, .bool a0_2, .bool a0_3, .int .u32 a0_4, .int .u32 a0_5, .int .i64 a0_6] 26 (0, 0))) ∧ Aside0 (wc.heap[gb120]? = some (.cells #[.bool a1_0, .bool a1_1, .bool a1_2, .bool a1_3, .int .u32 a1_4, .int .u32 a1_5, .int .i64 a1_6] 26 (0, 0))) ∧ Aside0 (Below w.heap.size w wc))
              case first =>
                have H := HC34.out
                clear HC34
                by_cases c35 : a0_0 = true
                · subst c35
                  have H1 : (config_Fits.j2 kj13 false true a0_1 a0_2 a0_3 a0_4 a0_5 a0_6 a1_0 a1_1 a1_2 a1_3 a1_4 a1_5 a1_6) = some r := by rw [if_pos rfl] at H; exact H
                  clear H
                  have H := H1
                  clear H1
                  have H' := Aside0.mk H
                  clear H
                  have hnb36 := NB119_120.out
                  have hnc36 := NB120_119.out
                  have hcz37_0 : wc.cell? ⟨gb119, 0, none⟩ = some (.bool true) := (blk_cell BK119.out 0).trans rfl
                  have hcz37_1 : wc.cell? ⟨gb119, 1, none⟩ = some (.bool a0_1) := (blk_cell BK119.out 1).trans rfl
                  have hcz37_2 : wc.cell? ⟨gb119, 2, none⟩ = some (.bool a0_2) := (blk_cell BK119.out 2).trans rfl
                  have hcz37_3 : wc.cell? ⟨gb119, 3, none⟩ = some (.bool a0_3) := (blk_cell BK119.out 3).trans rfl
                  have hcz37_4 : wc.cell? ⟨gb119, 4, none⟩ = some (.int .u32 a0_4) := (blk_cell BK119.out 4).trans rfl
                  have hcz37_5 : wc.cell? ⟨gb119, 5, none⟩ = some (.int .u32 a0_5) := (blk_cell BK119.out 5).trans rfl
                  have hcz37_6 : wc.cell? ⟨gb119, 6, none⟩ = some (.int .i64 a0_6) := (blk_cell BK119.out 6).trans rfl
                  have hfz37_0 := blk_frozen BK119.out 0
                  have hfz37_1 := blk_frozen BK119.out 1
                  have hfz37_2 := blk_frozen BK119.out 2
                  have hfz37_3 := blk_frozen BK119.out 3
                  have hfz37_4 := blk_frozen BK119.out 4
                  have hfz37_5 := blk_frozen BK119.out 5
                  have hfz37_6 := blk_frozen BK119.out 6
                  go_wp2
                  go_meet
                  case rel => exact ⟨_, (false), (by first | rfl | (simp; done) | (simp [*]; done)), H', ⟨by have := HJ2.out; have := HJ13.out; first | omega | exact Nat.le_refl _⟩, ⟨by (with_reducible repeat (first | refine blk_drewN ?_ _ | refine blk_drew ?_ | refine blk_alloc ?_ _)); exact BK119.out⟩, ⟨by (with_reducible repeat (first | refine blk_drewN ?_ _ | refine blk_drew ?_ | refine blk_alloc ?_ _)); exact BK120.out⟩, ⟨by repeat (first | (with_reducible first | exact HB.out | apply below_alloc | apply pw_below_drewN | apply below_drew1 | refine below_set ?_ GE119.out | refine below_set ?_ GE120.out) | exact HB.out)⟩⟩
                · replace c35 := Bool.eq_false_iff.mpr c35
                  subst c35
                  have H1 : ((accm_Within.f a1_5 a0_4).bind fun t121 => (config_Fits.j2 kj13 (!t121) false a0_1 a0_2 a0_3 a0_4 a0_5 a0_6 a1_0 a1_1 a1_2 a1_3 a1_4 a1_5 a1_6)) = some r := by rw [if_neg (show ¬ (false = true) by decide)] at H; exact H
                  clear H
                  have H := H1
                  clear H1
                  replace H := Option.bind_eq_some_iff.mp H
                  obtain ⟨t121, A380, H⟩ := H
                  replace H : (config_Fits.j2 kj13 (!t121) false a0_1 a0_2 a0_3 a0_4 a0_5 a0_6 a1_0 a1_1 a1_2 a1_3 a1_4 a1_5 a1_6) = some r := H
                  have A38 := Aside0.mk A380
                  clear A380
                  have H' := Aside0.mk H
                  clear H
                  have hnb39 := NB119_120.out
                  have hnc39 := NB120_119.out
                  have hcz40_0 : wc.cell? ⟨gb119, 0, none⟩ = some (.bool false) := (blk_cell BK119.out 0).trans rfl
                  have hcz40_1 : wc.cell? ⟨gb119, 1, none⟩ = some (.bool a0_1) := (blk_cell BK119.out 1).trans rfl
                  have hcz40_2 : wc.cell? ⟨gb119, 2, none⟩ = some (.bool a0_2) := (blk_cell BK119.out 2).trans rfl
                  have hcz40_3 : wc.cell? ⟨gb119, 3, none⟩ = some (.bool a0_3) := (blk_cell BK119.out 3).trans rfl
                  have hcz40_4 : wc.cell? ⟨gb119, 4, none⟩ = some (.int .u32 a0_4) := (blk_cell BK119.out 4).trans rfl
                  have hcz40_5 : wc.cell? ⟨gb119, 5, none⟩ = some (.int .u32 a0_5) := (blk_cell BK119.out 5).trans rfl
                  have hcz40_6 : wc.cell? ⟨gb119, 6, none⟩ = some (.int .i64 a0_6) := (blk_cell BK119.out 6).trans rfl
                  have hfz40_0 := blk_frozen BK119.out 0
                  have hfz40_1 := blk_frozen BK119.out 1
                  have hfz40_2 := blk_frozen BK119.out 2
                  have hfz40_3 := blk_frozen BK119.out 3
                  have hfz40_4 := blk_frozen BK119.out 4
                  have hfz40_5 := blk_frozen BK119.out 5
                  have hfz40_6 := blk_frozen BK119.out 6
                  have hcz41_0 : wc.cell? ⟨gb120, 0, none⟩ = some (.bool a1_0) := (blk_cell BK120.out 0).trans rfl
                  have hcz41_1 : wc.cell? ⟨gb120, 1, none⟩ = some (.bool a1_1) := (blk_cell BK120.out 1).trans rfl
                  have hcz41_2 : wc.cell? ⟨gb120, 2, none⟩ = some (.bool a1_2) := (blk_cell BK120.out 2).trans rfl
                  have hcz41_3 : wc.cell? ⟨gb120, 3, none⟩ = some (.bool a1_3) := (blk_cell BK120.out 3).trans rfl
                  have hcz41_4 : wc.cell? ⟨gb120, 4, none⟩ = some (.int .u32 a1_4) := (blk_cell BK120.out 4).trans rfl
                  have hcz41_5 : wc.cell? ⟨gb120, 5, none⟩ = some (.int .u32 a1_5) := (blk_cell BK120.out 5).trans rfl
                  have hcz41_6 : wc.cell? ⟨gb120, 6, none⟩ = some (.int .i64 a1_6) := (blk_cell BK120.out 6).trans rfl
                  have hfz41_0 := blk_frozen BK120.out 0
                  have hfz41_1 := blk_frozen BK120.out 1
                  have hfz41_2 := blk_frozen BK120.out 2
                  have hfz41_3 := blk_frozen BK120.out 3
                  have hfz41_4 := blk_frozen BK120.out 4
                  have hfz41_5 := blk_frozen BK120.out 5
                  have hfz41_6 := blk_frozen BK120.out 6
                  go_wp2_with (first | (go_at_call 54; (with_reducible refine (accm_Within.calls a1_5 a0_4 t121 _ A38.out).mono ?_); rintro e w' ⟨rfl, ⟨nd, rfl⟩⟩))
                  go_meet
                  case rel => exact ⟨_, (!t121), (by first | rfl | (simp; done) | (simp [*]; done)), H', ⟨by have := HJ2.out; have := HJ13.out; first | omega | exact Nat.le_refl _⟩, ⟨by (with_reducible repeat (first | refine blk_drewN ?_ _ | refine blk_drew ?_ | refine blk_alloc ?_ _)); exact BK119.out⟩, ⟨by (with_reducible repeat (first | refine blk_drewN ?_ _ | refine blk_drew ?_ | refine blk_alloc ?_ _)); exact BK120.out⟩, ⟨by repeat (first | (with_reducible first | exact HB.out | apply below_alloc | apply pw_below_drewN | apply below_drew1 | refine below_set ?_ GE119.out | refine below_set ?_ GE120.out) | exact HB.out)⟩⟩
              case rest =>
                clear HC34
                try clear c1
                try clear c2
                try clear p2
                try clear c3
                try clear c6
                try clear c6b0
                try clear c6b1
                try clear c6b2
                try clear c7
                try clear c10
                try clear c13
                try clear c15
                try clear c16
                try clear c17
                try clear c18
                try clear c21
                try clear c22
                try clear c24
                try clear c27
                try clear c28
                try clear c31
                try clear c33
                try clear c35
                try clear c36
                try clear c39
                try clear hcz11_0
                try clear hcz11_1
                try clear hcz11_2
                try clear hcz11_3
                try clear hcz11_4
                try clear hcz11_5
                try clear hcz11_6
                try clear hcz12_0
                try clear hcz12_1
                try clear hcz12_2
                try clear hcz12_3
                try clear hcz12_4
                try clear hcz12_5
                try clear hcz12_6
                try clear hcz19_0
                try clear hcz19_1
                try clear hcz19_2
                try clear hcz19_3
                try clear hcz19_4
                try clear hcz19_5
                try clear hcz19_6
                try clear hcz20_0
                try clear hcz20_1
                try clear hcz20_2
                try clear hcz20_3
                try clear hcz20_4
                try clear hcz20_5
                try clear hcz20_6
                try clear hcz22_0
                try clear hcz22_1
                try clear hcz22_2
                try clear hcz22_3
                try clear hcz22_4
                try clear hcz22_5
                try clear hcz22_6
                try clear hcz23_0
                try clear hcz23_1
                try clear hcz23_2
                try clear hcz23_3
                try clear hcz23_4
                try clear hcz23_5
                try clear hcz23_6
                try clear hcz25_0
                try clear hcz25_1
                try clear hcz25_2
                try clear hcz25_3
                try clear hcz25_4
                try clear hcz25_5
                try clear hcz25_6
                try clear hcz26_0
                try clear hcz26_1
                try clear hcz26_2
                try clear hcz26_3
                try clear hcz26_4
                try clear hcz26_5
                try clear hcz26_6
                try clear hcz29_0
                try clear hcz29_1
                try clear hcz29_2
                try clear hcz29_3
                try clear hcz29_4
                try clear hcz29_5
                try clear hcz29_6
                try clear hcz30_0
                try clear hcz30_1
                try clear hcz30_2
                try clear hcz30_3
                try clear hcz30_4
                try clear hcz30_5
                try clear hcz30_6
                try clear hcz32_0
                try clear hcz32_1
                try clear hcz32_2
                try clear hcz32_3
                try clear hcz32_4
                try clear hcz32_5
                try clear hcz32_6
                try clear hcz37_0
                try clear hcz37_1
                try clear hcz37_2
                try clear hcz37_3
                try clear hcz37_4
                try clear hcz37_5
                try clear hcz37_6
                try clear hcz40_0
                try clear hcz40_1
                try clear hcz40_2
                try clear hcz40_3
                try clear hcz40_4
                try clear hcz40_5
                try clear hcz40_6
                try clear hcz41_0
                try clear hcz41_1
                try clear hcz41_2
                try clear hcz41_3
                try clear hcz41_4
                try clear hcz41_5
                try clear hcz41_6
                try clear hcz8_0
                try clear hcz8_1
                try clear hcz8_2
                try clear hcz8_3
                try clear hcz8_4
                try clear hcz8_5
                try clear hcz8_6
                try clear hcz9_0
                try clear hcz9_1
                try clear hcz9_2
                try clear hcz9_3
                try clear hcz9_4
                try clear hcz9_5
                try clear hcz9_6
                try clear hfz11_0
                try clear hfz11_1
                try clear hfz11_2
                try clear hfz11_3
                try clear hfz11_4
                try clear hfz11_5
                try clear hfz11_6
                try clear hfz12_0
                try clear hfz12_1
                try clear hfz12_2
                try clear hfz12_3
                try clear hfz12_4
                try clear hfz12_5
                try clear hfz12_6
                try clear hfz19_0
                try clear hfz19_1
                try clear hfz19_2
                try clear hfz19_3
                try clear hfz19_4
                try clear hfz19_5
                try clear hfz19_6
                try clear hfz20_0
                try clear hfz20_1
                try clear hfz20_2
                try clear hfz20_3
                try clear hfz20_4
                try clear hfz20_5
                try clear hfz20_6
                try clear hfz22_0
                try clear hfz22_1
                try clear hfz22_2
                try clear hfz22_3
                try clear hfz22_4
                try clear hfz22_5
                try clear hfz22_6
                try clear hfz23_0
                try clear hfz23_1
                try clear hfz23_2
                try clear hfz23_3
                try clear hfz23_4
                try clear hfz23_5
                try clear hfz23_6
                try clear hfz25_0
                try clear hfz25_1
                try clear hfz25_2
                try clear hfz25_3
                try clear hfz25_4
                try clear hfz25_5
                try clear hfz25_6
                try clear hfz26_0
                try clear hfz26_1
                try clear hfz26_2
                try clear hfz26_3
                try clear hfz26_4
                try clear hfz26_5
                try clear hfz26_6
                try clear hfz29_0
                try clear hfz29_1
                try clear hfz29_2
                try clear hfz29_3
                try clear hfz29_4
                try clear hfz29_5
                try clear hfz29_6
                try clear hfz30_0
                try clear hfz30_1
                try clear hfz30_2
                try clear hfz30_3
                try clear hfz30_4
                try clear hfz30_5
                try clear hfz30_6
                try clear hfz32_0
                try clear hfz32_1
                try clear hfz32_2
                try clear hfz32_3
                try clear hfz32_4
                try clear hfz32_5
                try clear hfz32_6
                try clear hfz37_0
                try clear hfz37_1
                try clear hfz37_2
                try clear hfz37_3
                try clear hfz37_4
                try clear hfz37_5
                try clear hfz37_6
                try clear hfz40_0
                try clear hfz40_1
                try clear hfz40_2
                try clear hfz40_3
                try clear hfz40_4
                try clear hfz40_5
                try clear hfz40_6
                try clear hfz41_0
                try clear hfz41_1
                try clear hfz41_2
                try clear hfz41_3
                try clear hfz41_4
                try clear hfz41_5
                try clear hfz41_6
                try clear hfz8_0
                try clear hfz8_1
                try clear hfz8_2
                try clear hfz8_3
                try clear hfz8_4
                try clear hfz8_5
                try clear hfz8_6
                try clear hfz9_0
                try clear hfz9_1
                try clear hfz9_2
                try clear hfz9_3
                try clear hfz9_4
                try clear hfz9_5
                try clear hfz9_6
                try clear p2
                obtain ⟨kq, x35_33, rfl, HA, HJ33, BK119, BK120, HB⟩ := hcut
                cases kq with
                | zero => exact absurd HA.out (by simp [config_Fits.j2])
                | succ kj33 =>
                  have H := HA.out
                  clear HA
                  simp only [config_Fits.j2] at H
                  by_cases c42 : x35_33 = true
                  · subst c42
                    have H1 : (some false) = some r := by rw [if_pos rfl] at H; exact H
                    clear H
                    have H := H1
                    clear H1
                    obtain rfl := Option.some.inj H
                    go_wp2
                    go_ret
                    exact ⟨by first | rfl | (simp [errW_none, errW_some] <;> rfl) | (simp [*, errW_none, errW_some] <;> rfl), by repeat (first | (with_reducible first | exact HB.out | apply below_alloc | apply pw_below_drewN | apply below_drew1 | refine below_set ?_ GE119.out | refine below_set ?_ GE120.out) | exact HB.out)⟩
                  · replace c42 := Bool.eq_false_iff.mpr c42
                    subst c42
                    have H1 : (if a0_6 > a1_6 then (some false) else (some true)) = some r := by rw [if_neg (show ¬ (false = true) by decide)] at H; exact H
                    clear H
                    have H := H1
                    clear H1
                    by_cases c43 : a0_6 > a1_6
                    · rw [if_pos c43] at H
                      have c43b0 : decide (a1_6 < a0_6) = true := decide_eq_true c43
                      clear c43
                      obtain rfl := Option.some.inj H
                      have hnb44 := NB119_120.out
                      have hnc44 := NB120_119.out
                      have hcz45_0 : wc.cell? ⟨gb119, 0, none⟩ = some (.bool a0_0) := (blk_cell BK119.out 0).trans rfl
                      have hcz45_1 : wc.cell? ⟨gb119, 1, none⟩ = some (.bool a0_1) := (blk_cell BK119.out 1).trans rfl
                      have hcz45_2 : wc.cell? ⟨gb119, 2, none⟩ = some (.bool a0_2) := (blk_cell BK119.out 2).trans rfl
                      have hcz45_3 : wc.cell? ⟨gb119, 3, none⟩ = some (.bool a0_3) := (blk_cell BK119.out 3).trans rfl
                      have hcz45_4 : wc.cell? ⟨gb119, 4, none⟩ = some (.int .u32 a0_4) := (blk_cell BK119.out 4).trans rfl
                      have hcz45_5 : wc.cell? ⟨gb119, 5, none⟩ = some (.int .u32 a0_5) := (blk_cell BK119.out 5).trans rfl
                      have hcz45_6 : wc.cell? ⟨gb119, 6, none⟩ = some (.int .i64 a0_6) := (blk_cell BK119.out 6).trans rfl
                      have hfz45_0 := blk_frozen BK119.out 0
                      have hfz45_1 := blk_frozen BK119.out 1
                      have hfz45_2 := blk_frozen BK119.out 2
                      have hfz45_3 := blk_frozen BK119.out 3
                      have hfz45_4 := blk_frozen BK119.out 4
                      have hfz45_5 := blk_frozen BK119.out 5
                      have hfz45_6 := blk_frozen BK119.out 6
                      have hcz46_0 : wc.cell? ⟨gb120, 0, none⟩ = some (.bool a1_0) := (blk_cell BK120.out 0).trans rfl
                      have hcz46_1 : wc.cell? ⟨gb120, 1, none⟩ = some (.bool a1_1) := (blk_cell BK120.out 1).trans rfl
                      have hcz46_2 : wc.cell? ⟨gb120, 2, none⟩ = some (.bool a1_2) := (blk_cell BK120.out 2).trans rfl
                      have hcz46_3 : wc.cell? ⟨gb120, 3, none⟩ = some (.bool a1_3) := (blk_cell BK120.out 3).trans rfl
                      have hcz46_4 : wc.cell? ⟨gb120, 4, none⟩ = some (.int .u32 a1_4) := (blk_cell BK120.out 4).trans rfl
                      have hcz46_5 : wc.cell? ⟨gb120, 5, none⟩ = some (.int .u32 a1_5) := (blk_cell BK120.out 5).trans rfl
                      have hcz46_6 : wc.cell? ⟨gb120, 6, none⟩ = some (.int .i64 a1_6) := (blk_cell BK120.out 6).trans rfl
                      have hfz46_0 := blk_frozen BK120.out 0
                      have hfz46_1 := blk_frozen BK120.out 1
                      have hfz46_2 := blk_frozen BK120.out 2
                      have hfz46_3 := blk_frozen BK120.out 3
                      have hfz46_4 := blk_frozen BK120.out 4
                      have hfz46_5 := blk_frozen BK120.out 5
                      have hfz46_6 := blk_frozen BK120.out 6
                      go_wp2
                      go_ret
                      exact ⟨by first | rfl | (simp [errW_none, errW_some] <;> rfl) | (simp [*, errW_none, errW_some] <;> rfl), by repeat (first | (with_reducible first | exact HB.out | apply below_alloc | apply pw_below_drewN | apply below_drew1 | refine below_set ?_ GE119.out | refine below_set ?_ GE120.out) | exact HB.out)⟩
                    · rw [if_neg c43] at H
                      have c43b0 : decide (a1_6 < a0_6) = false := decide_eq_false c43
                      clear c43
                      obtain rfl := Option.some.inj H
                      have hnb47 := NB119_120.out
                      have hnc47 := NB120_119.out
                      have hcz48_0 : wc.cell? ⟨gb119, 0, none⟩ = some (.bool a0_0) := (blk_cell BK119.out 0).trans rfl
                      have hcz48_1 : wc.cell? ⟨gb119, 1, none⟩ = some (.bool a0_1) := (blk_cell BK119.out 1).trans rfl
                      have hcz48_2 : wc.cell? ⟨gb119, 2, none⟩ = some (.bool a0_2) := (blk_cell BK119.out 2).trans rfl
                      have hcz48_3 : wc.cell? ⟨gb119, 3, none⟩ = some (.bool a0_3) := (blk_cell BK119.out 3).trans rfl
                      have hcz48_4 : wc.cell? ⟨gb119, 4, none⟩ = some (.int .u32 a0_4) := (blk_cell BK119.out 4).trans rfl
                      have hcz48_5 : wc.cell? ⟨gb119, 5, none⟩ = some (.int .u32 a0_5) := (blk_cell BK119.out 5).trans rfl
                      have hcz48_6 : wc.cell? ⟨gb119, 6, none⟩ = some (.int .i64 a0_6) := (blk_cell BK119.out 6).trans rfl
                      have hfz48_0 := blk_frozen BK119.out 0
                      have hfz48_1 := blk_frozen BK119.out 1
                      have hfz48_2 := blk_frozen BK119.out 2
                      have hfz48_3 := blk_frozen BK119.out 3
                      have hfz48_4 := blk_frozen BK119.out 4
                      have hfz48_5 := blk_frozen BK119.out 5
                      have hfz48_6 := blk_frozen BK119.out 6
                      have hcz49_0 : wc.cell? ⟨gb120, 0, none⟩ = some (.bool a1_0) := (blk_cell BK120.out 0).trans rfl
                      have hcz49_1 : wc.cell? ⟨gb120, 1, none⟩ = some (.bool a1_1) := (blk_cell BK120.out 1).trans rfl
                      have hcz49_2 : wc.cell? ⟨gb120, 2, none⟩ = some (.bool a1_2) := (blk_cell BK120.out 2).trans rfl
                      have hcz49_3 : wc.cell? ⟨gb120, 3, none⟩ = some (.bool a1_3) := (blk_cell BK120.out 3).trans rfl
                      have hcz49_4 : wc.cell? ⟨gb120, 4, none⟩ = some (.int .u32 a1_4) := (blk_cell BK120.out 4).trans rfl
                      have hcz49_5 : wc.cell? ⟨gb120, 5, none⟩ = some (.int .u32 a1_5) := (blk_cell BK120.out 5).trans rfl
                      have hcz49_6 : wc.cell? ⟨gb120, 6, none⟩ = some (.int .i64 a1_6) := (blk_cell BK120.out 6).trans rfl
                      have hfz49_0 := blk_frozen BK120.out 0
                      have hfz49_1 := blk_frozen BK120.out 1
                      have hfz49_2 := blk_frozen BK120.out 2
                      have hfz49_3 := blk_frozen BK120.out 3
                      have hfz49_4 := blk_frozen BK120.out 4
                      have hfz49_5 := blk_frozen BK120.out 5
                      have hfz49_6 := blk_frozen BK120.out 6
                      go_wp2
                      go_ret
                      exact ⟨by first | rfl | (simp [errW_none, errW_some] <;> rfl) | (simp [*, errW_none, errW_some] <;> rfl), by repeat (first | (with_reducible first | exact HB.out | apply below_alloc | apply pw_below_drewN | apply below_drew1 | refine below_set ?_ GE119.out | refine below_set ?_ GE120.out) | exact HB.out)⟩
end Go.Proofs.YtggpejjfgphihaaDoor.C
end

section
namespace Go.Proofs.YtggpejjfgphihaaDoor.L
open Go.Proofs.YtggpejjfgphihaaDoor.Given Go.Proofs.YtggpejjfgphihaaDoor.D Go.Proofs.YtggpejjfgphihaaDoor.H Go.Proofs.YtggpejjfgphihaaDoor.E Go.RowKit Go.Proofs.YtggpejjfgphihaaDoorW.PrintWords Go.Proofs.YtggpejjfgphihaaDoorW.PrintLast Go.Proofs.YtggpejjfgphihaaDoorW.PrintMore
attribute [local go_sem] max2_int min2_int max_two min_two max_three min_three max_four min_four
open Go.Proofs.YtggpejjfgphihaaDoor.C (config_Most.f config_Most.calls config_Fits.f config_Fits.calls marlineref08_Check.f marlineref08_Check.calls)
set_option linter.unusedVariables false
set_option linter.unusedSimpArgs false
def errW : Option Int → Value
  | none => .nilIface
  | some c => .iface 0 (.int .i64 c)
theorem errW_none : errW none = .nilIface := rfl
theorem errW_some (c : Int) : errW (some c) = .iface 0 (.int .i64 c) := rfl
theorem info5 : (Tryd.prog.info? 5).map (fun i => (i.zero, i.size, i.bytes)) = some (some (.int .u8 0), 1, 1) := by kernel_rfl
end Go.Proofs.YtggpejjfgphihaaDoor.L
end

section
namespace Go.Proofs.YtggpejjfgphihaaDoor.L
open Go.Proofs.YtggpejjfgphihaaDoor.Given Go.Proofs.YtggpejjfgphihaaDoor.D Go.Proofs.YtggpejjfgphihaaDoor.H Go.Proofs.YtggpejjfgphihaaDoor.E Go.RowKit Go.Proofs.YtggpejjfgphihaaDoorW.PrintWords Go.Proofs.YtggpejjfgphihaaDoorW.PrintLast Go.Proofs.YtggpejjfgphihaaDoorW.PrintMore
attribute [local go_sem] max2_int min2_int max_two min_two max_three min_three max_four min_four
open Go.Proofs.YtggpejjfgphihaaDoor.C (config_Most.f config_Most.calls config_Fits.f config_Fits.calls marlineref08_Check.f marlineref08_Check.calls)
set_option linter.unusedVariables false
set_option linter.unusedSimpArgs false
def marlinelaw11_speaks.f (k : Nat)  : Option (Bool) := (frame_Build.f k false false true true 0 0 64 33 ([] : List Int)).bind fun bt101 => (if bt101.2 = 0 then (if (bt101.1.length : Int) = 3 then (if 0 < (bt101.1.length : Int) then (some ((rd bt101.1 0) == 33)) else (none)) else (some false)) else (some false))
set_option maxHeartbeats 8000000 in
set_option maxRecDepth 100000 in
theorem marlinelaw11_speaks.calls (k : Nat)  (r : Bool) (w : World) (hgF : GF w) (hgH : GH w) (h : marlinelaw11_speaks.f k  = some r) :
    Calls Tryd.prog 47 #[] w fun e w' => e = .returned (.bool r) ∧ Below w.heap.size w w' := by
  have hu26 := Tryd.underlying26
  have HGF := Aside0.mk hgF
  clear hgF
  have HGH := Aside0.mk hgH
  clear hgH
  have HB := Aside0.mk (Below.refl w.heap.size w)
  have H : ((frame_Build.f k false false true true 0 0 64 33 ([] : List Int)).bind fun bt101 => (if bt101.2 = 0 then (if (bt101.1.length : Int) = 3 then (if 0 < (bt101.1.length : Int) then (some ((rd bt101.1 0) == 33)) else (none)) else (some false)) else (some false))) = some r := h
  clear h
  replace H := Option.bind_eq_some_iff.mp H
  obtain ⟨⟨t101, t104⟩, A10, H⟩ := H
  replace H : (if t104 = 0 then (if (t101.length : Int) = 3 then (if 0 < (t101.length : Int) then (some ((rd t101 0) == 33)) else (none)) else (some false)) else (some false)) = some r := H
  have A1 := Aside0.mk A10
  clear A10
  by_cases c2 : t104 = 0
  · rw [if_pos c2] at H
    have c2b0 : (t104 == 0) = true := beq_iff_eq.mpr c2
    have c2b1 : (t104 != 0) = false := bne_eq_false_iff_eq.mpr c2
    clear c2
    by_cases c3 : (t101.length : Int) = 3
    · rw [if_pos c3] at H
      have c3b0 : ((t101.length : Int) == 3) = true := beq_iff_eq.mpr c3
      have c3b1 : ((t101.length : Int) != 3) = false := bne_eq_false_iff_eq.mpr c3
      clear c3
      by_cases c4 : 0 < (t101.length : Int)
      · rw [if_pos c4] at H
        have c4b0 : decide (0 < (t101.length : Int)) = true := decide_eq_true c4
        have c4b1 : decide (0 < t101.length) = true := decide_eq_true (by omega)
        clear c4
        obtain rfl := Option.some.inj H
        go_enter Tryd.func47, Tryd.ntmps47
        go_wp2_with (first | ((with_reducible refine gate_callee (f := 48) rfl ?_); refine goesL_ (some 5) rfl rfl Tryd.func48 (by kernel_rfl) rfl #[.agg #[.bool false, .bool false, .bool true, .bool true, .int .u32 0, .int .u32 0, .int .i64 64], .int .u16 33, .slice none 0 0] rfl (by (try simp only [List.map_toArray, List.map_cons, List.map_nil]); first | done | rfl | (simp only [List.length_drop, List.length_take]; rfl)) ?_; (refine (frame_Build.calls k false false true true 0 0 64 33 _ _ ([] : List Int) t101 t104 _ ?side1 ?side2 ?side3 ?side4 A1.out).mono ?_); (case side1 => exact Kd.C_nil _ _); (case side2 => exact Nat.le_refl _); (case side3 => repeat (first | exact HGF.out | (with_reducible refine GF_alloc ?_ _) | (with_reducible refine GF_drewN ?_ _) | (with_reducible refine GF_drew ?_))); (case side4 => repeat (first | exact HGH.out | (with_reducible refine GH_alloc ?_ _) | (with_reducible refine GH_drewN ?_ _) | (with_reducible refine GH_drew ?_))); rintro e w5 ⟨v102, rfl, ho0, hb⟩; refine ⟨_, rfl, ?_⟩; have n0_ := Aside0.mk (Kd.R_lower ho0 (below_size (by repeat (first | (with_reducible first | exact HB.out | apply below_alloc | apply pw_below_drewN | apply below_drew1) | exact HB.out)))); have n1_ := Aside0.mk (below_step (by repeat (first | (with_reducible first | exact HB.out | apply below_alloc | apply pw_below_drewN | apply below_drew1) | exact HB.out)) hb); clear HB; have HO103 := n0_; have HB := n1_; clear n0_ n1_; (try clear hb); (try clear hb2); (try clear hk); (try clear hi); (try clear ho0); obtain ⟨Ao6, co6, eo6⟩ := Kd.R_slice HO103.out; subst eo6; have p105 : 0 ≤ (0 : Int) := (by omega); have q105 : 0 < (t101.length : Int) := of_decide_eq_true (by first | (with_reducible assumption) | assumption); obtain ⟨ad105, e105, hx105_0⟩ := Kd.at_int (Kd.R_reads' HO103.out).2.2 0 p105 q105; cases e105; have qi105 : (0 < t101.length) = True := eq_true (by omega); (try rw [show ((0 : Int)).toNat = 0 from rfl] at hx105_0); (try rw [Addr.add_zero'] at hx105_0); replace p105 := eq_true p105; replace q105 := eq_true q105))
        go_ret
        exact ⟨by first | rfl | (simp [errW_none, errW_some] <;> rfl) | (simp [*, errW_none, errW_some] <;> rfl), by repeat (first | (with_reducible first | exact HB.out | apply below_alloc | apply pw_below_drewN | apply below_drew1) | exact HB.out)⟩
      · rw [if_neg c4] at H
        exact absurd H (by simp)
    · rw [if_neg c3] at H
      have c3b0 : ((t101.length : Int) == 3) = false := beq_eq_false_iff_ne.mpr c3
      have c3b1 : ((t101.length : Int) != 3) = true := bne_iff_ne.mpr c3
      obtain rfl := Option.some.inj H
      go_enter Tryd.func47, Tryd.ntmps47
      go_wp2_with (first | ((with_reducible refine gate_callee (f := 48) rfl ?_); refine goesL_ (some 5) rfl rfl Tryd.func48 (by kernel_rfl) rfl #[.agg #[.bool false, .bool false, .bool true, .bool true, .int .u32 0, .int .u32 0, .int .i64 64], .int .u16 33, .slice none 0 0] rfl (by (try simp only [List.map_toArray, List.map_cons, List.map_nil]); first | done | rfl | (simp only [List.length_drop, List.length_take]; rfl)) ?_; (refine (frame_Build.calls k false false true true 0 0 64 33 _ _ ([] : List Int) t101 t104 _ ?side1 ?side2 ?side3 ?side4 A1.out).mono ?_); (case side1 => exact Kd.C_nil _ _); (case side2 => exact Nat.le_refl _); (case side3 => repeat (first | exact HGF.out | (with_reducible refine GF_alloc ?_ _) | (with_reducible refine GF_drewN ?_ _) | (with_reducible refine GF_drew ?_))); (case side4 => repeat (first | exact HGH.out | (with_reducible refine GH_alloc ?_ _) | (with_reducible refine GH_drewN ?_ _) | (with_reducible refine GH_drew ?_))); rintro e w7 ⟨v102, rfl, ho0, hb⟩; refine ⟨_, rfl, ?_⟩; have n0_ := Aside0.mk (Kd.R_lower ho0 (below_size (by repeat (first | (with_reducible first | exact HB.out | apply below_alloc | apply pw_below_drewN | apply below_drew1) | exact HB.out)))); have n1_ := Aside0.mk (below_step (by repeat (first | (with_reducible first | exact HB.out | apply below_alloc | apply pw_below_drewN | apply below_drew1) | exact HB.out)) hb); clear HB; have HO103 := n0_; have HB := n1_; clear n0_ n1_; (try clear hb); (try clear hb2); (try clear hk); (try clear hi); (try clear ho0); obtain ⟨Ao8, co8, eo8⟩ := Kd.R_slice HO103.out; subst eo8))
      go_ret
      exact ⟨by first | rfl | (simp [errW_none, errW_some] <;> rfl) | (simp [*, errW_none, errW_some] <;> rfl), by repeat (first | (with_reducible first | exact HB.out | apply below_alloc | apply pw_below_drewN | apply below_drew1) | exact HB.out)⟩
  · rw [if_neg c2] at H
    have c2b0 : (t104 == 0) = false := beq_eq_false_iff_ne.mpr c2
    have c2b1 : (t104 != 0) = true := bne_iff_ne.mpr c2
    obtain rfl := Option.some.inj H
    go_enter Tryd.func47, Tryd.ntmps47
    go_wp2_with (first | ((with_reducible refine gate_callee (f := 48) rfl ?_); refine goesL_ (some 5) rfl rfl Tryd.func48 (by kernel_rfl) rfl #[.agg #[.bool false, .bool false, .bool true, .bool true, .int .u32 0, .int .u32 0, .int .i64 64], .int .u16 33, .slice none 0 0] rfl (by (try simp only [List.map_toArray, List.map_cons, List.map_nil]); first | done | rfl | (simp only [List.length_drop, List.length_take]; rfl)) ?_; (refine (frame_Build.calls k false false true true 0 0 64 33 _ _ ([] : List Int) t101 t104 _ ?side1 ?side2 ?side3 ?side4 A1.out).mono ?_); (case side1 => exact Kd.C_nil _ _); (case side2 => exact Nat.le_refl _); (case side3 => repeat (first | exact HGF.out | (with_reducible refine GF_alloc ?_ _) | (with_reducible refine GF_drewN ?_ _) | (with_reducible refine GF_drew ?_))); (case side4 => repeat (first | exact HGH.out | (with_reducible refine GH_alloc ?_ _) | (with_reducible refine GH_drewN ?_ _) | (with_reducible refine GH_drew ?_))); rintro e w9 ⟨v102, rfl, ho0, hb⟩; refine ⟨_, rfl, ?_⟩; have n0_ := Aside0.mk (Kd.R_lower ho0 (below_size (by repeat (first | (with_reducible first | exact HB.out | apply below_alloc | apply pw_below_drewN | apply below_drew1) | exact HB.out)))); have n1_ := Aside0.mk (below_step (by repeat (first | (with_reducible first | exact HB.out | apply below_alloc | apply pw_below_drewN | apply below_drew1) | exact HB.out)) hb); clear HB; have HO103 := n0_; have HB := n1_; clear n0_ n1_; (try clear hb); (try clear hb2); (try clear hk); (try clear hi); (try clear ho0)))
    go_ret
    exact ⟨by first | rfl | (simp [errW_none, errW_some] <;> rfl) | (simp [*, errW_none, errW_some] <;> rfl), by repeat (first | (with_reducible first | exact HB.out | apply below_alloc | apply pw_below_drewN | apply below_drew1) | exact HB.out)⟩
end Go.Proofs.YtggpejjfgphihaaDoor.L
end

section
namespace Go.Proofs.YtggpejjfgphihaaDoor.Pu
open Go.RowKit Go.Proofs.YtggpejjfgphihaaDoorW.PrintWords Go.Proofs.YtggpejjfgphihaaDoorW.PrintLast Go.Proofs.YtggpejjfgphihaaDoorW.PrintMore
open Go.Proofs.YtggpejjfgphihaaDoor.Given Go.Proofs.YtggpejjfgphihaaDoor.D Go.Proofs.YtggpejjfgphihaaDoor.H Go.Proofs.YtggpejjfgphihaaDoor.E Go.Proofs.YtggpejjfgphihaaDoor.L
set_option linter.unusedVariables false
set_option linter.unusedSimpArgs false
theorem bytes_of11 {l : List Int} (h : l.all okByte = true) : ∀ x ∈ l.map Int.toNat, x < 256 := by
  intro x hx
  obtain ⟨y, hy, rfl⟩ := List.mem_map.1 hx
  have := List.all_eq_true.1 h y hy
  simp [okByte] at this
  omega
theorem speaks11 (k : Nat) : marlinelaw11_speaks.f (k + 5) = some true := by
  have h := f_Build k false false true true 0 0 64 33 (by decide) [] (by simp) (by decide)
  have hl := frameN_len false true true 33 []
  unfold marlinelaw11_speaks.f
  have h' : frame_Build.f (k + 5) false false true true 0 0 64 33 ([] : List Int) = some (ofN (frameN false true true 33 []), 0) := by
    rw [show ([] : List Int) = ofN [] from rfl, show (33 : Int) = ((33 : Nat) : Int) from rfl, h, if_pos (by decide), if_neg (by decide)]
  have h3 : (headN true true 33).length = 1 := by decide
  have h4 : sizeN false = 2 := by decide
  simp only [List.length_nil] at hl
  have hr : rd (ofN (frameN false true true 33 [])) 0 = 33 := rfl
  rw [bd h', if_pos rfl, if_pos (by rw [ofN_length]; omega), if_pos (by rw [ofN_length]; omega)]
  show some (rd (ofN (frameN false true true 33 [])) 0 == 33) = some true
  rw [hr]; rfl
end Go.Proofs.YtggpejjfgphihaaDoor.Pu
end

section
namespace Go.Proofs.YtggpejjfgphihaaDoor.Pu
open Go.Proofs.YtggpejjfgphihaaDoor.Given Go.Proofs.YtggpejjfgphihaaDoor.C Go.RowKit Go.Proofs.YtggpejjfgphihaaDoorW.PrintWords
def chk (m : Int) : Int := if m < 64 then 5 else if m > 65535 then 5 else 0
theorem check_r (a0 a1 a2 a3 : Bool) (a4 a5 a6 : Int) : marlineref08_Check.f a0 a1 a2 a3 a4 a5 a6 = some (chk a6) := by
  unfold marlineref08_Check.f chk; split <;> (try split) <;> rfl
theorem chk_zero {m : Int} (h : chk m = 0) : 64 ≤ m ∧ m ≤ 65535 := by
  unfold chk at h
  split at h
  · cases h
  · split at h
    · cases h
    · omega
def within (m s : Int) : Bool := (Go.bits .andNot .u32 m s) == 0
def fitsV (a0 a1 a2 a3 : Bool) (a4 a6 : Int) (b0 b1 b2 b3 : Bool) (b5 b6 : Int) : Bool :=
  (a0 == b0) && (a1 == b1) && (!a2 || b2) && (!a3 || b3) && (a0 || within b5 a4) && decide (a6 ≤ b6)
theorem fits_p (k : Nat) (a0 a1 a2 a3 : Bool) (a4 a5 a6 : Int) (b0 b1 b2 b3 : Bool) (b4 b5 b6 : Int) :
    config_Fits.f (k + 3) a0 a1 a2 a3 a4 a5 a6 b0 b1 b2 b3 b4 b5 b6 = some (fitsV a0 a1 a2 a3 a4 a6 b0 b1 b2 b3 b5 b6) := by
  by_cases h : a6 ≤ b6
  · have h' : ¬ b6 < a6 := by omega
    cases hw : within b5 a4 <;> cases a0 <;> cases a1 <;> cases a2 <;> cases a3 <;> cases b0 <;> cases b1 <;> cases b2 <;> cases b3 <;>
      simp [config_Fits.f, config_Fits.j0, config_Fits.j1, config_Fits.j2, fitsV, accm_Within.f, h, h', hw, show ((Go.bits .andNot .u32 b5 a4) == 0) = within b5 a4 from rfl]
  · have h' : b6 < a6 := by omega
    cases hw : within b5 a4 <;> cases a0 <;> cases a1 <;> cases a2 <;> cases a3 <;> cases b0 <;> cases b1 <;> cases b2 <;> cases b3 <;>
      simp [config_Fits.f, config_Fits.j0, config_Fits.j1, config_Fits.j2, fitsV, accm_Within.f, h, h', hw, show ((Go.bits .andNot .u32 b5 a4) == 0) = within b5 a4 from rfl]
end Go.Proofs.YtggpejjfgphihaaDoor.Pu
end

section
namespace Go.Proofs.YtggpejjfgphihaaDoor.M
open Go.Proofs.YtggpejjfgphihaaDoor.Given Go.Proofs.YtggpejjfgphihaaDoor.D Go.Proofs.YtggpejjfgphihaaDoor.H Go.Proofs.YtggpejjfgphihaaDoor.E Go.RowKit Go.Proofs.YtggpejjfgphihaaDoorW.PrintWords Go.Proofs.YtggpejjfgphihaaDoorW.PrintLast Go.Proofs.YtggpejjfgphihaaDoorW.PrintMore
attribute [local go_sem] max2_int min2_int max_two min_two max_three min_three max_four min_four
open Go.Proofs.YtggpejjfgphihaaDoor.C (config_Most.f config_Most.calls config_Fits.f config_Fits.calls marlineref08_Check.f marlineref08_Check.calls)
set_option linter.unusedVariables false
set_option linter.unusedSimpArgs false
def errW : Option Int → Value
  | none => .nilIface
  | some c => .iface 0 (.int .i64 c)
theorem errW_none : errW none = .nilIface := rfl
theorem errW_some (c : Int) : errW (some c) = .iface 0 (.int .i64 c) := rfl
end Go.Proofs.YtggpejjfgphihaaDoor.M
end

section
namespace Go.Proofs.YtggpejjfgphihaaDoor.M
open Go.Proofs.YtggpejjfgphihaaDoor.Given Go.Proofs.YtggpejjfgphihaaDoor.D Go.Proofs.YtggpejjfgphihaaDoor.H Go.Proofs.YtggpejjfgphihaaDoor.E Go.RowKit Go.Proofs.YtggpejjfgphihaaDoorW.PrintWords Go.Proofs.YtggpejjfgphihaaDoorW.PrintLast Go.Proofs.YtggpejjfgphihaaDoorW.PrintMore
attribute [local go_sem] max2_int min2_int max_two min_two max_three min_three max_four min_four
open Go.Proofs.YtggpejjfgphihaaDoor.C (config_Most.f config_Most.calls config_Fits.f config_Fits.calls marlineref08_Check.f marlineref08_Check.calls)
set_option linter.unusedVariables false
set_option linter.unusedSimpArgs false
theorem eqA26 (d : Nat) (w : World) (x0 y0 : Bool) (x1 y1 : Bool) (x2 y2 : Bool) (x3 y3 : Bool) (x4 y4 : Int) (x5 y5 : Int) (x6 y6 : Int) :
    (Op.equalIn (d + 2) 26 (.agg #[.bool x0, .bool x1, .bool x2, .bool x3, .int .u32 x4, .int .u32 x5, .int .i64 x6]) (.agg #[.bool y0, .bool y1, .bool y2, .bool y3, .int .u32 y4, .int .u32 y5, .int .i64 y6])).run Tryd.prog w = .ok (x0 == y0 && (x1 == y1 && (x2 == y2 && (x3 == y3 && (x4 == y4 && (x5 == y5 && (x6 == y6))))))) w := by
  refine eqA_of Tryd.underlying26 (by kernel_rfl) ?_
  refine eqf_cons (by rfl) (by go_simp; rfl) (by go_simp; rfl) (by go_simp) ?_
  refine eqf_cons (by rfl) (by go_simp; rfl) (by go_simp; rfl) (by go_simp) ?_
  refine eqf_cons (by rfl) (by go_simp; rfl) (by go_simp; rfl) (by go_simp) ?_
  refine eqf_cons (by rfl) (by go_simp; rfl) (by go_simp; rfl) (by go_simp) ?_
  refine eqf_cons (by rfl) (by go_simp; rfl) (by go_simp; rfl) (by go_simp) ?_
  refine eqf_cons (by rfl) (by go_simp; rfl) (by go_simp; rfl) (by go_simp) ?_
  exact eqf_last (by rfl) (by go_simp; rfl) (by go_simp; rfl) (by go_simp)
end Go.Proofs.YtggpejjfgphihaaDoor.M
end

section
namespace Go.Proofs.YtggpejjfgphihaaDoor.Wk11
open Go.Proofs.YtggpejjfgphihaaDoor.Given Go.RowKit Go.Proofs.YtggpejjfgphihaaDoorW.PrintWords
set_option linter.unusedVariables false
structure Cfg (w : World) (b : Nat) (a0 a1 a2 a3 : Bool) (a4 a5 a6 : Int) : Prop where
  c0 : w.cell? ⟨b, 0, none⟩ = some (.bool a0)
  c1 : w.cell? ⟨b, 1, none⟩ = some (.bool a1)
  c2 : w.cell? ⟨b, 2, none⟩ = some (.bool a2)
  c3 : w.cell? ⟨b, 3, none⟩ = some (.bool a3)
  c4 : w.cell? ⟨b, 4, none⟩ = some (.int .u32 a4)
  c5 : w.cell? ⟨b, 5, none⟩ = some (.int .u32 a5)
  c6 : w.cell? ⟨b, 6, none⟩ = some (.int .i64 a6)
theorem Cfg.below {w w1 : World} {b : Nat} {a0 a1 a2 a3 : Bool} {a4 a5 a6 : Int} (h : Cfg w b a0 a1 a2 a3 a4 a5 a6) (hb : Below w.heap.size w w1) : Cfg w1 b a0 a1 a2 a3 a4 a5 a6 :=
  ⟨pw_cell_below hb h.c0, pw_cell_below hb h.c1, pw_cell_below hb h.c2, pw_cell_below hb h.c3, pw_cell_below hb h.c4, pw_cell_below hb h.c5, pw_cell_below hb h.c6⟩
theorem two_cells {w w1 : World} {c d : Array Value} {t u : TypeId} (hb : Below ((w.alloc (.cells c t)).alloc (.cells d u)).heap.size ((w.alloc (.cells c t)).alloc (.cells d u)) w1) :
    (∀ j, w1.cell? ⟨w.heap.size, j, none⟩ = c[j]?) ∧ (∀ j, w1.cell? ⟨w.heap.size + 1, j, none⟩ = d[j]?) := by
  constructor
  · intro j
    rw [hb.cell (p := ⟨w.heap.size, j, none⟩) (by simp; omega)]
    exact cell_of_row _ _ j c t (0, 0) (heap_alloc2_old w _ _)
  · intro j
    rw [hb.cell (p := ⟨w.heap.size + 1, j, none⟩) (by simp)]
    exact cell_of_row _ _ j d u (0, 0) (heap_alloc2_new w _ _)
theorem two_below {w w1 : World} {o p : Obj} (hb : Below ((w.alloc o).alloc p).heap.size ((w.alloc o).alloc p) w1) : Below w.heap.size w w1 ∧ w.heap.size + 1 < w1.heap.size := by
  refine ⟨below_then (((Below.refl _ _).alloc (Nat.le_refl _) _).alloc (by simp) _) (by simp; omega) hb, ?_⟩
  have := hb.size; simp at this; omega
theorem cfg_fst (w : World) (a0 a1 a2 a3 : Bool) (a4 a5 a6 : Int) (o : Obj) (t : TypeId) :
    Cfg ((w.alloc (.cells #[.bool a0, .bool a1, .bool a2, .bool a3, .int .u32 a4, .int .u32 a5, .int .i64 a6] t)).alloc o).drew w.heap.size a0 a1 a2 a3 a4 a5 a6 := by
  have h : ∀ j, (((w.alloc (.cells #[.bool a0, .bool a1, .bool a2, .bool a3, .int .u32 a4, .int .u32 a5, .int .i64 a6] t)).alloc o).drew).cell? ⟨w.heap.size, j, none⟩ = (#[.bool a0, .bool a1, .bool a2, .bool a3, .int .u32 a4, .int .u32 a5, .int .i64 a6] : Array Value)[j]? :=
    fun j => cell_of_row _ _ j _ t (0, 0) (heap_alloc2_old w _ _)
  exact ⟨h 0, h 1, h 2, h 3, h 4, h 5, h 6⟩
theorem cfg_snd (w : World) (a0 a1 a2 a3 : Bool) (a4 a5 a6 : Int) (o : Obj) (t : TypeId) :
    Cfg ((w.alloc o).alloc (.cells #[.bool a0, .bool a1, .bool a2, .bool a3, .int .u32 a4, .int .u32 a5, .int .i64 a6] t)).drew (w.heap.size + 1) a0 a1 a2 a3 a4 a5 a6 := by
  have h : ∀ j, (((w.alloc o).alloc (.cells #[.bool a0, .bool a1, .bool a2, .bool a3, .int .u32 a4, .int .u32 a5, .int .i64 a6] t)).drew).cell? ⟨w.heap.size + 1, j, none⟩ = (#[.bool a0, .bool a1, .bool a2, .bool a3, .int .u32 a4, .int .u32 a5, .int .i64 a6] : Array Value)[j]? :=
    fun j => cell_of_row _ _ j _ t (0, 0) (heap_alloc2_new w _ _)
  exact ⟨h 0, h 1, h 2, h 3, h 4, h 5, h 6⟩
end Go.Proofs.YtggpejjfgphihaaDoor.Wk11
end

section
namespace Go.Proofs.YtggpejjfgphihaaDoor.Wk
open Go.Proofs.YtggpejjfgphihaaDoor.Given Go.Proofs.YtggpejjfgphihaaDoor.Pu Go.RowKit Go.Proofs.YtggpejjfgphihaaDoorW.PrintWords Go.Proofs.YtggpejjfgphihaaDoor.Wk11
open Go.Proofs.YtggpejjfgphihaaDoor.E (frame_Parse.calls frame_Parse.f)
open Go.Proofs.YtggpejjfgphihaaDoor.L (marlinelaw11_speaks.calls)
open Go.Proofs.YtggpejjfgphihaaDoor.C (marlineref08_Check.calls config_Fits.calls config_Most.calls config_Fits.f config_Most.f)
open Go.Proofs.YtggpejjfgphihaaDoor.M (eqA26)
open Go.Proofs.YtggpejjfgphihaaDoor.H (marlineref09_Right.calls marlineref09_Right.f)
open Go.Proofs.YtggpejjfgphihaaDoor.D (marlineref01_Equal.calls marlineref01_Equal.f fcs_Size.calls fcs_Size.f)
set_option linter.unusedVariables false
set_option linter.unusedSimpArgs false
attribute [local go_sem high] eqA26
set_option maxHeartbeats 8000000 in
set_option maxRecDepth 100000 in
theorem fback_walk (a0 a1 a2 a3 : Bool) (a4 a5 a6 : Int) (b0 b1 b2 b3 : Bool) (b4 b5 b6 : Int) (x : Int) (A : Option Addr) (cap : Nat) (l : List Int) (w : World) (hgF : GF w) (hgH : GH w)
    (h4 : 0 ≤ a4 ∧ a4 < 4294967296) (h5 : 0 ≤ a5 ∧ a5 < 4294967296) (h6 : -9223372036854775808 ≤ a6 ∧ a6 ≤ 9223372036854775807) (g4 : 0 ≤ b4 ∧ b4 < 4294967296) (g5 : 0 ≤ b5 ∧ b5 < 4294967296) (g6 : -9223372036854775808 ≤ b6 ∧ b6 ≤ 9223372036854775807)
    (hx : 0 ≤ x ∧ x < 65536) (hr : Kd.C (Kd.int .u8) w A l.length l) (hc : l.length ≤ cap) (hb : l.all okByte = true) :
    Calls Tryd.prog 15 #[.agg #[.bool a0, .bool a1, .bool a2, .bool a3, .int .u32 a4, .int .u32 a5, .int .i64 a6], .agg #[.bool b0, .bool b1, .bool b2, .bool b3, .int .u32 b4, .int .u32 b5, .int .i64 b6], .int .u16 x, .slice A l.length cap] w fun e w' => e = .returned (.bool true) ∧ Below w.heap.size w w' := by
  have HGF := Aside0.mk hgF
  have HGH := Aside0.mk hgH
  have HR := Aside0.mk hr
  have HC := Aside0.mk hc
  have HBY := Aside0.mk hb
  have HX := Aside0.mk hx
  clear hgF hgH hr hc hb hx h4 h5 h6 g4 g5 g6
  go_enter Tryd.func15, Tryd.ntmps15
  go_wp2_with fail
  refine (marlinelaw11_speaks.calls 20 true _ ?gl ?gh (speaks11 15)).mono ?_
  case gl => exact GF_alloc (GF_alloc HGF.out _) _
  case gh => exact GH_alloc (GH_alloc HGH.out _) _
  rintro e w1 ⟨rfl, hb1⟩
  obtain ⟨ca, cb⟩ := two_cells hb1
  obtain ⟨hbw, hlt1⟩ := two_below hb1
  have hlt2 : w.heap.size < w1.heap.size := by omega
  have HB1 := Aside0.mk hbw
  have HLT1 := Aside0.mk hlt1
  have HLT2 := Aside0.mk hlt2
  clear hb1 hbw
  have HA := Aside0.mk (⟨ca 0, ca 1, ca 2, ca 3, ca 4, ca 5, ca 6⟩ : Cfg w1 w.heap.size a0 a1 a2 a3 a4 a5 a6)
  have HD := Aside0.mk (⟨cb 0, cb 1, cb 2, cb 3, cb 4, cb 5, cb 6⟩ : Cfg w1 (w.heap.size + 1) b0 b1 b2 b3 b4 b5 b6)
  clear ca cb hlt1 hlt2
  obtain ⟨ca0, ca1, ca2, ca3, ca4, ca5, ca6⟩ := HA.out
  go_wp2_with fail
  refine (marlineref08_Check.calls a0 a1 a2 a3 a4 a5 a6 (chk a6) _ (check_r _ _ _ _ _ _ _)).mono ?_
  rintro e w2 ⟨rfl, hb2⟩
  have HB2 := Aside0.mk (below_step HB1.out hb2)
  have HA2 := Aside0.mk (HA.out.below hb2)
  have HD2 := Aside0.mk (HD.out.below hb2)
  replace HLT1 := Aside0.mk (Nat.lt_of_lt_of_le HLT1.out hb2.size)
  clear hb2 ca0 ca1 ca2 ca3 ca4 ca5 ca6
  have HSP : ∀ W : World, Below w.heap.size w W → Calls Tryd.prog 47 #[] W fun e w' => e = .returned (.bool true) ∧ Below W.heap.size W w' := fun W hW => marlinelaw11_speaks.calls 20 true W (GF_below HGF.out hW) (GH_below HGH.out hW) (speaks11 15)
  have HSPK := Aside0.mk HSP
  clear HSP
  by_cases hz : chk a6 = 0
  case neg =>
    have hz1 : (chk a6 == 0) = false := beq_eq_false_iff_ne.2 hz
    have hz2 : (chk a6 != 0) = true := bne_iff_ne.2 hz
    clear hz
    go_wp2_with fail
    refine (HSPK.out _ HB2.out).mono ?_
    rintro e w3 ⟨rfl, hb3⟩
    have HB3 := Aside0.mk (below_step HB2.out hb3)
    clear hb3
    go_wp2_with fail
    go_ret
    exact ⟨rfl, HB3.out⟩
  case pos =>
  have hz2 : (chk a6 != 0) = false := by rw [hz]; rfl
  have HM := Aside0.mk (chk_zero hz)
  clear hz
  obtain ⟨cb0, cb1, cb2, cb3, cb4, cb5, cb6⟩ := HD2.out
  go_wp2_with fail
  refine (marlineref08_Check.calls b0 b1 b2 b3 b4 b5 b6 (chk b6) _ (check_r _ _ _ _ _ _ _)).mono ?_
  rintro e w3 ⟨rfl, hb3⟩
  have HB3 := Aside0.mk (below_step HB2.out hb3)
  have HA3 := Aside0.mk (HA2.out.below hb3)
  have HD3 := Aside0.mk (HD2.out.below hb3)
  replace HLT1 := Aside0.mk (Nat.lt_of_lt_of_le HLT1.out hb3.size)
  clear hb3 cb0 cb1 cb2 cb3 cb4 cb5 cb6 HA2 HD2
  by_cases hz : chk b6 = 0
  case neg =>
    have hz1 : (chk b6 == 0) = false := beq_eq_false_iff_ne.2 hz
    have hz3 : (chk b6 != 0) = true := bne_iff_ne.2 hz
    clear hz
    go_wp2_with fail
    refine (HSPK.out _ HB3.out).mono ?_
    rintro e w4 ⟨rfl, hb4⟩
    have HB4 := Aside0.mk (below_step HB3.out hb4)
    clear hb4
    go_wp2_with fail
    go_ret
    exact ⟨rfl, HB4.out⟩
  case pos =>
  have hz3 : (chk b6 != 0) = false := by rw [hz]; rfl
  have HM2 := Aside0.mk (chk_zero hz)
  clear hz
  by_cases hl : (l.length : Int) > 400
  · have hl2 : decide (400 < (l.length : Int)) = true := decide_eq_true hl
    have hl3 : decide (400 < l.length) = true := decide_eq_true (by omega)
    clear hl
    go_wp2_with fail
    refine (HSPK.out _ HB3.out).mono ?_
    rintro e w4 ⟨rfl, hb4⟩
    have HB4 := Aside0.mk (below_step HB3.out hb4)
    clear hb4
    go_wp2_with fail
    go_ret
    exact ⟨rfl, HB4.out⟩
  have hl2 : decide (400 < (l.length : Int)) = false := decide_eq_false (by omega)
  have hl3 : decide (400 < l.length) = false := decide_eq_false (by omega)
  have HL := Aside0.mk hl
  clear hl
  obtain ⟨ca0, ca1, ca2, ca3, ca4, ca5, ca6⟩ := HA3.out
  obtain ⟨cb0, cb1, cb2, cb3, cb4, cb5, cb6⟩ := HD3.out
  have hlt1 : w.heap.size + 1 < w3.heap.size := HLT1.out
  have hlt2 : w.heap.size < w3.heap.size := by omega
  go_upto_region 3 with (fail)
  go_cut [9, 10] (fun v5 v6 wc => ∃ x y : Nat, v5 = .pointer (some ⟨x, 0, none⟩) ∧ v6 = .pointer (some ⟨y, 0, none⟩) ∧ Aside0 (Cfg wc x a0 a1 a2 a3 a4 a5 a6 ∧ Cfg wc y b0 b1 b2 b3 b4 b5 b6 ∧ Below w3.heap.size w3 wc))
  case first =>
    go_region
    all_goals (try go_wp2_with fail)
    all_goals go_meet
    · exact ⟨_, _, rfl, rfl, ⟨cfg_fst _ _ _ _ _ _ _ _ _ _, cfg_snd _ _ _ _ _ _ _ _ _ _, ((((Below.refl _ _).alloc (Nat.le_refl _) _).alloc (by simp) _).drew)⟩⟩
    · exact ⟨_, _, rfl, rfl, ⟨cfg_snd _ _ _ _ _ _ _ _ _ _, cfg_fst _ _ _ _ _ _ _ _ _ _, ((((Below.refl _ _).alloc (Nat.le_refl _) _).alloc (by simp) _).drew)⟩⟩
  case rest =>
    obtain ⟨X, Y, rfl, rfl, HXY⟩ := hcut
    clear ca0 ca1 ca2 ca3 ca4 ca5 ca6 cb0 cb1 cb2 cb3 cb4 cb5 cb6
    have HBc := Aside0.mk (below_step HB3.out HXY.out.2.2)
    have HA4 := Aside0.mk (HA3.out.below HXY.out.2.2)
    obtain ⟨P, hP⟩ : ∃ P : Nat, x = (P : Int) := ⟨x.toNat, by have := HX.out; omega⟩
    obtain ⟨B, hBl⟩ : ∃ B : List Nat, l = ofN B ∧ ∀ x ∈ B, x < 256 := ⟨l.map Int.toNat, ofN_of HBY.out, bytes_of11 HBY.out⟩
    have hlen : l.length = B.length := by rw [hBl.1, ofN_length]
    have hP2 : P < 65536 := by have := HX.out; omega
    have HP := Aside0.mk hP
    have HP2 := Aside0.mk hP2
    have HBl := Aside0.mk hBl
    have HLEN := Aside0.mk hlen
    have hfb : frame_Build.f (0 + 5) a0 a1 a2 a3 a4 a5 a6 x l = if right P = true then (if (B.length : Int) > a6 then some ([], 3) else some (ofN (frameN a1 a2 a3 P B), 0)) else some ([], 7) := by
      rw [hP, hBl.1]
      exact f_Build 0 a0 a1 a2 a3 a4 a5 a6 P hP2 B hBl.2 (by have := HL.out; omega)
    have HFB := Aside0.mk hfb
    have hrr : marlineref09_Right.f (wrap64 x) = some (right P) := by rw [hP, w64 P (by omega)]; exact r_Right P hP2
    have HRR := Aside0.mk hrr
    clear hP hBl hP2 hlen hfb hrr hl2 hl3
    obtain ⟨cx0, cx1, cx2, cx3, cx4, cx5, cx6⟩ := HXY.out.1
    by_cases hri : right P = true
    case neg =>
      have h1 := HFB.out
      rw [if_neg hri] at h1
      have H1 := Aside0.mk h1
      have hrf : marlineref09_Right.f (wrap64 x) = some false := by rw [HRR.out]; simp at hri; rw [hri]
      have HRF := Aside0.mk hrf
      clear h1 hri hrf
      go_wp2_with fail
      refine (frame_Build.calls 5 a0 a1 a2 a3 a4 a5 a6 x A cap l [] 7 _ (Kd.C_below HR.out HBc.out) HC.out (GF_below HGF.out HBc.out) (GH_below HGH.out HBc.out) H1.out).mono ?_
      rintro e w5 ⟨v5, rfl, ho5, hb5⟩
      obtain ⟨A5, c5, rfl, hc5, hq5⟩ := Kd.R_reads ho5
      have HB5 := Aside0.mk (below_step HBc.out hb5)
      have e6 := (HA4.out.below hb5).c6
      clear ho5 hc5 hq5 hb5 cx0 cx1 cx2 cx3 cx4 cx5 cx6
      go_wp2_with fail
      refine (marlineref09_Right.calls (wrap64 x) false _ HRF.out).mono ?_
      rintro e w6 ⟨rfl, ⟨nd, rfl⟩⟩
      go_wp2_with fail
      go_ret
      exact ⟨rfl, pw_below_drewN HB5.out _⟩
    case pos =>
    by_cases hlo : (l.length : Int) > a6
    case pos =>
      have h1 := HFB.out
      rw [if_pos hri, if_pos (by rw [← HLEN.out]; exact hlo)] at h1
      have H1 := Aside0.mk h1
      have hrf : marlineref09_Right.f (wrap64 x) = some true := by rw [HRR.out, hri]
      have HRF := Aside0.mk hrf
      have hlo2 : decide (a6 < (l.length : Int)) = true := decide_eq_true hlo
      clear h1 hri hrf hlo
      go_wp2_with fail
      refine (frame_Build.calls 5 a0 a1 a2 a3 a4 a5 a6 x A cap l [] 3 _ (Kd.C_below HR.out HBc.out) HC.out (GF_below HGF.out HBc.out) (GH_below HGH.out HBc.out) H1.out).mono ?_
      rintro e w5 ⟨v5, rfl, ho5, hb5⟩
      obtain ⟨A5, c5, rfl, hc5, hq5⟩ := Kd.R_reads ho5
      have HB5 := Aside0.mk (below_step HBc.out hb5)
      have e6 := (HA4.out.below hb5).c6
      clear ho5 hc5 hq5 hb5 cx0 cx1 cx2 cx3 cx4 cx5 cx6
      go_wp2_with fail
      refine (marlineref09_Right.calls (wrap64 x) true _ HRF.out).mono ?_
      rintro e w6 ⟨rfl, ⟨nd, rfl⟩⟩
      go_wp2_with fail
      go_ret
      exact ⟨rfl, pw_below_drewN HB5.out _⟩
    case neg =>
    have h1 := HFB.out
    rw [if_pos hri, if_neg (by rw [← HLEN.out]; exact hlo)] at h1
    have H1 := Aside0.mk h1
    have HRI := Aside0.mk hri
    have HLO := Aside0.mk hlo
    clear h1 hri hlo
    go_wp2_with fail
    refine (frame_Build.calls 5 a0 a1 a2 a3 a4 a5 a6 x A cap l (ofN (frameN a1 a2 a3 P B)) 0 _ (Kd.C_below HR.out HBc.out) HC.out (GF_below HGF.out HBc.out) (GH_below HGH.out HBc.out) H1.out).mono ?_
    rintro e w5 ⟨v5, rfl, ho5, hb5⟩
    obtain ⟨A5, c5, rfl, hc5, hq5⟩ := Kd.R_reads ho5
    have HB5 := Aside0.mk (below_step HBc.out hb5)
    have HA5 := Aside0.mk (HA4.out.below hb5)
    have HX5 := Aside0.mk (HXY.out.1.below hb5)
    have HY5 := Aside0.mk (HXY.out.2.1.below hb5)
    have HC5 := Aside0.mk hc5
    have HQ5 := Aside0.mk hq5
    clear ho5 hc5 hq5 hb5 cx0 cx1 cx2 cx3 cx4 cx5 cx6
    obtain ⟨F, hF⟩ : ∃ F, F = frameN a1 a2 a3 P B := ⟨_, rfl⟩
    rw [← hF] at HC5 HQ5 ⊢
    have HF := Aside0.mk hF
    clear hF
    obtain ⟨L5, hL5⟩ : ∃ L5, L5 = ofN F := ⟨_, rfl⟩
    rw [← hL5] at HC5 HQ5 ⊢
    have HFL := frameN_len a1 a2 a3 P B
    rw [← HF.out] at HFL
    have hL5l : L5.length = F.length := by rw [hL5, ofN_length]
    have hh := headN_le a2 a3 P
    obtain ⟨m, hm⟩ : ∃ m : Nat, a6 = (m : Int) := ⟨a6.toNat, by have := HM.out; omega⟩
    have hBm : B.length ≤ m := by have := HLO.out; have := HLEN.out; omega
    have hpa : frame_Parse.f 3 a0 a1 a2 a3 a4 a5 a6 L5 = some (x, l, 0) := by
      rw [hm, hL5]
      have h := f_Parse 0 a0 a1 a2 a3 a4 a5 m (by have := HM.out; omega) F (by rw [HF.out]; exact frameN_lt a1 a2 a3 P HP2.out B HBl.out.2) (by have := HL.out; have := HLEN.out; have := size_le a1; omega)
      rw [HF.out, parse_back a1 a2 a3 a2 a3 id id P HP2.out HRI.out B HBl.out.2 m hBm, ← HF.out] at h
      rw [h, HP.out, HBl.out.1]; rfl
    have HPA := Aside0.mk hpa
    obtain ⟨fv, hfv⟩ : ∃ fv, fv = fitsV a0 a1 a2 a3 a4 a6 b0 b1 b2 b3 b5 b6 := ⟨_, rfl⟩
    have HFV := Aside0.mk (show config_Fits.f 3 a0 a1 a2 a3 a4 a5 a6 b0 b1 b2 b3 b4 b5 b6 = some fv by rw [hfv]; exact fits_p 0 _ _ _ _ _ _ _ _ _ _ _ _ _ _)
    have hpb : fv = true → frame_Parse.f 3 b0 b1 b2 b3 b4 b5 b6 L5 = some (x, l, 0) := by
      intro ht
      rw [hfv] at ht
      unfold fitsV at ht
      simp only [Bool.and_eq_true, decide_eq_true_eq, beq_iff_eq, Bool.or_eq_true, Bool.not_eq_true'] at ht
      obtain ⟨⟨⟨⟨⟨t0, t1⟩, t2⟩, t3⟩, _⟩, t6⟩ := ht
      obtain ⟨m', hm'⟩ : ∃ m : Nat, b6 = (m : Int) := ⟨b6.toNat, by have := HM2.out; omega⟩
      rw [hm', hL5, ← t1]
      have h := f_Parse 0 b0 a1 b2 b3 b4 b5 m' (by have := HM2.out; omega) F (by rw [HF.out]; exact frameN_lt a1 a2 a3 P HP2.out B HBl.out.2) (by have := HL.out; have := HLEN.out; have := size_le a1; omega)
      have i2 : a2 = true → b2 = true := fun h => t2.resolve_left (by rw [h]; decide)
      have i3 : a3 = true → b3 = true := fun h => t3.resolve_left (by rw [h]; decide)
      rw [HF.out, parse_back a1 a2 a3 b2 b3 i2 i3 P HP2.out HRI.out B HBl.out.2 m' (by omega), ← HF.out] at h
      rw [h, HP.out, HBl.out.1]; rfl
    have HPB0 := Aside0.mk hpb
    obtain ⟨mv, hmv⟩ : ∃ mv : Int, mv = ((m + 4 + sizeN a1 : Nat) : Int) := ⟨_, rfl⟩
    have HMV := Aside0.mk (show config_Most.f a0 a1 a2 a3 a4 a5 a6 = some mv by rw [hm, hmv]; exact f_Most a0 a1 a2 a3 a4 a5 m (by have := HM.out; omega))
    obtain ⟨sv, hsv⟩ : ∃ sv : Int, sv = ((sizeN a1 : Nat) : Int) := ⟨_, rfl⟩
    have HSV := Aside0.mk (show fcs_Size.f a1 = some sv by rw [hsv]; exact f_Size a1)
    have hd1 : decide ((L5.length : Int) ≤ mv) = true := decide_eq_true (by rw [hL5l, hmv]; omega)
    have hd2 : decide (sv < (L5.length : Int)) = true := decide_eq_true (by rw [hL5l, hsv]; omega)
    have HEQ := Aside0.mk (show marlineref01_Equal.f 401 l l = some true by
      rw [HBl.out.1]
      have := r_Equal 401 B B (by have := HL.out; have := HLEN.out; omega) (by have := HL.out; have := HLEN.out; omega)
      rw [this]; simp)
    obtain ⟨ev, hev⟩ : ∃ ev : Bool, (a0 == b0 && (a1 == b1 && (a2 == b2 && (a3 == b3 && (a4 == b4 && (a5 == b5 && (a6 == b6))))))) = ev := ⟨_, rfl⟩
    have HEV := Aside0.mk hev
    clear hL5 HFL hL5l hh hm hBm hpa hfv hpb hmv hsv hev
    obtain ⟨cx0, cx1, cx2, cx3, cx4, cx5, cx6⟩ := HX5.out
    obtain ⟨cy0, cy1, cy2, cy3, cy4, cy5, cy6⟩ := HY5.out
    go_upto_region 7 with (fail)
    go_wp2_with fail
    obtain ⟨w6, hw6⟩ : ∃ W, W = w5.alloc (.cells #[.bool a0, .bool a1, .bool a2, .bool a3, .int .u32 a4, .int .u32 a5, .int .i64 a6, .bool b0, .bool b1, .bool b2, .bool b3, .int .u32 b4, .int .u32 b5, .int .i64 b6] 26) := ⟨_, rfl⟩
    have hb6 : Below w5.heap.size w5 w6 := by rw [hw6]; exact below_alloc (Below.refl _ _) _
    have harr : ∀ j, w6.cell? ⟨w5.heap.size, j, none⟩ = (#[.bool a0, .bool a1, .bool a2, .bool a3, .int .u32 a4, .int .u32 a5, .int .i64 a6, .bool b0, .bool b1, .bool b2, .bool b3, .int .u32 b4, .int .u32 b5, .int .i64 b6] : Array Value)[j]? := by intro j; rw [hw6]; exact cell_of_row _ _ j _ 26 (0, 0) (heap_alloc_new w5 _)
    rw [← hw6]
    have HARR := Aside0.mk harr
    have HB6 := Aside0.mk hb6
    have HBW6 := Aside0.mk (below_step HB5.out hb6)
    have HLT5 := Aside0.mk (show w5.heap.size < w6.heap.size by rw [hw6]; simp)
    clear hw6 harr hb6 cx0 cx1 cx2 cx3 cx4 cx5 cx6 cy0 cy1 cy2 cy3 cy4 cy5 cy6
    go_loopw [67] (fun v67 wr => (v67 = .int .i64 0 ∨ v67 = .int .i64 1 ∨ v67 = .int .i64 2) ∧ Aside0 (Below w6.heap.size w6 wr)) (fun v _ => 2 - (intOf v).toNat)
    case atStart => exact ⟨Or.inl rfl, ⟨Below.refl _ _⟩⟩
    case round =>
      obtain ⟨hv, HW⟩ := hrel
      have HBR := Aside0.mk (below_step HBW6.out HW.out)
      have HXR := Aside0.mk ((HX5.out.below HB6.out).below HW.out)
      have HYR := Aside0.mk ((HY5.out.below HB6.out).below HW.out)
      have HAR := Aside0.mk ((HA5.out.below HB6.out).below HW.out)
      have HQR := Aside0.mk (Kd.C_below (Kd.C_below HQ5.out HB6.out) HW.out)
      rcases hv with rfl | rfl | rfl
      · have q0 : wr.cell? ⟨w5.heap.size, 0, none⟩ = some (.bool a0) := pw_cell_below HW.out (HARR.out 0)
        have q1 : wr.cell? ⟨w5.heap.size, 1, none⟩ = some (.bool a1) := pw_cell_below HW.out (HARR.out 1)
        have q2 : wr.cell? ⟨w5.heap.size, 2, none⟩ = some (.bool a2) := pw_cell_below HW.out (HARR.out 2)
        have q3 : wr.cell? ⟨w5.heap.size, 3, none⟩ = some (.bool a3) := pw_cell_below HW.out (HARR.out 3)
        have q4 : wr.cell? ⟨w5.heap.size, 4, none⟩ = some (.int .u32 a4) := pw_cell_below HW.out (HARR.out 4)
        have q5 : wr.cell? ⟨w5.heap.size, 5, none⟩ = some (.int .u32 a5) := pw_cell_below HW.out (HARR.out 5)
        have q6 : wr.cell? ⟨w5.heap.size, 6, none⟩ = some (.int .i64 a6) := pw_cell_below HW.out (HARR.out 6)
        obtain ⟨cy0, cy1, cy2, cy3, cy4, cy5, cy6⟩ := HYR.out
        obtain ⟨cx0, cx1, cx2, cx3, cx4, cx5, cx6⟩ := HXR.out
        go_upto_region 10 with (fail)
        obtain ⟨w7, hw7⟩ : ∃ W, W = wr.alloc (.cells #[.bool a0, .bool a1, .bool a2, .bool a3, .int .u32 a4, .int .u32 a5, .int .i64 a6] 26) := ⟨_, rfl⟩
        have hb7 : Below wr.heap.size wr w7 := by rw [hw7]; exact below_alloc (Below.refl _ _) _
        have HZ7 := Aside0.mk (show Cfg w7 wr.heap.size a0 a1 a2 a3 a4 a5 a6 from ⟨by rw [hw7]; exact cell_of_row _ _ 0 _ 26 (0, 0) (heap_alloc_new wr _), by rw [hw7]; exact cell_of_row _ _ 1 _ 26 (0, 0) (heap_alloc_new wr _), by rw [hw7]; exact cell_of_row _ _ 2 _ 26 (0, 0) (heap_alloc_new wr _), by rw [hw7]; exact cell_of_row _ _ 3 _ 26 (0, 0) (heap_alloc_new wr _), by rw [hw7]; exact cell_of_row _ _ 4 _ 26 (0, 0) (heap_alloc_new wr _), by rw [hw7]; exact cell_of_row _ _ 5 _ 26 (0, 0) (heap_alloc_new wr _), by rw [hw7]; exact cell_of_row _ _ 6 _ 26 (0, 0) (heap_alloc_new wr _)⟩)
        rw [← hw7]
        have HW7 := Aside0.mk (below_step HW.out hb7)
        have HBR7 := Aside0.mk (below_step HBR.out hb7)
        have HX7 := Aside0.mk (HXR.out.below hb7)
        have HY7 := Aside0.mk (HYR.out.below hb7)
        have HQ7 := Aside0.mk (Kd.C_below HQR.out hb7)
        clear hw7 hb7 q0 q1 q2 q3 q4 q5 q6 cx0 cx1 cx2 cx3 cx4 cx5 cx6 cy0 cy1 cy2 cy3 cy4 cy5 cy6 HXR HYR HAR HQR HBR
        obtain ⟨cy0, cy1, cy2, cy3, cy4, cy5, cy6⟩ := HY7.out
        obtain ⟨cx0, cx1, cx2, cx3, cx4, cx5, cx6⟩ := HX7.out
        obtain ⟨cz0, cz1, cz2, cz3, cz4, cz5, cz6⟩ := HZ7.out
        cases hev : ev with
        | true =>
          have hev2 := HEV.out.trans hev
          clear hev
          go_wp2_with fail
          refine (config_Fits.calls 3 a0 a1 a2 a3 a4 a5 a6 b0 b1 b2 b3 b4 b5 b6 fv _ HFV.out).mono ?_
          rintro e w8 ⟨rfl, hd8⟩
          have HD8 := Aside0.mk hd8
          have HW8 := Aside0.mk (below_step HW7.out hd8)
          have HBR8 := Aside0.mk (below_step HBR7.out hd8)
          clear cy0 cy1 cy2 cy3 cy4 cy5 cy6 cx0 cx1 cx2 cx3 cx4 cx5 cx6 cz0 cz1 cz2 cz3 cz4 cz5 cz6
          obtain ⟨cz0, cz1, cz2, cz3, cz4, cz5, cz6⟩ := HZ7.out.below hd8
          clear hd8
          cases hfv : fv with
          | false =>
            clear hfv
            go_wp2_with fail
            go_roundw
            case rel => exact ⟨Or.inr (Or.inl rfl), HW8⟩
            case measure => simp [intOf]
          | true =>
            have HPB := Aside0.mk (HPA.out)
            clear hfv
            go_wp2_with fail
            refine (frame_Parse.calls 3 a0 a1 a2 a3 a4 a5 a6 A5 c5 L5 x l 0 _ (Kd.C_below HQ7.out HD8.out) HC5.out (GF_below HGF.out HBR8.out) (GH_below HGH.out HBR8.out) HPB.out).mono ?_
            rintro e w9 ⟨v9, rfl, ho9, hb9⟩
            obtain ⟨A9, c9, rfl, hc9, hq9⟩ := Kd.R_reads ho9
            have HW9 := Aside0.mk (below_step HW8.out hb9)
            have HB9 := Aside0.mk (below_step HBR8.out hb9)
            clear ho9 hb9 cz0 cz1 cz2 cz3 cz4 cz5 cz6
            have HQ9 := Aside0.mk hq9
            have HC9 := Aside0.mk hc9
            clear hq9 hc9
            go_wp2_with fail
            refine (marlineref01_Equal.calls 401 A9 c9 l A cap l true _ HQ9.out HC9.out (Kd.C_below HR.out HB9.out) HC.out HEQ.out).mono ?_
            rintro e w10 ⟨rfl, ⟨nd, rfl⟩⟩
            go_wp2_with fail
            go_roundw
            case rel => exact ⟨Or.inr (Or.inl rfl), ⟨pw_below_drewN HW9.out _⟩⟩
            case measure => simp [intOf]
        | false =>
          have hev2 := HEV.out.trans hev
          clear hev
          have HD8 := Aside0.mk (Below.refl w7.heap.size w7)
          have HW8 := HW7
          have HBR8 := HBR7
          go_wp2_with fail
          refine (frame_Parse.calls 3 a0 a1 a2 a3 a4 a5 a6 A5 c5 L5 x l 0 _ (Kd.C_below HQ7.out HD8.out) HC5.out (GF_below HGF.out HBR8.out) (GH_below HGH.out HBR8.out) HPA.out).mono ?_
          rintro e w9 ⟨v9, rfl, ho9, hb9⟩
          obtain ⟨A9, c9, rfl, hc9, hq9⟩ := Kd.R_reads ho9
          have HW9 := Aside0.mk (below_step HW8.out hb9)
          have HB9 := Aside0.mk (below_step HBR8.out hb9)
          clear ho9 hb9 cz0 cz1 cz2 cz3 cz4 cz5 cz6
          have HQ9 := Aside0.mk hq9
          have HC9 := Aside0.mk hc9
          clear hq9 hc9
          go_wp2_with fail
          refine (marlineref01_Equal.calls 401 A9 c9 l A cap l true _ HQ9.out HC9.out (Kd.C_below HR.out HB9.out) HC.out HEQ.out).mono ?_
          rintro e w10 ⟨rfl, ⟨nd, rfl⟩⟩
          go_wp2_with fail
          go_roundw
          case rel => exact ⟨Or.inr (Or.inl rfl), ⟨pw_below_drewN HW9.out _⟩⟩
          case measure => simp [intOf]
      · have q0 : wr.cell? ⟨w5.heap.size, 7, none⟩ = some (.bool b0) := pw_cell_below HW.out (HARR.out 7)
        have q1 : wr.cell? ⟨w5.heap.size, 8, none⟩ = some (.bool b1) := pw_cell_below HW.out (HARR.out 8)
        have q2 : wr.cell? ⟨w5.heap.size, 9, none⟩ = some (.bool b2) := pw_cell_below HW.out (HARR.out 9)
        have q3 : wr.cell? ⟨w5.heap.size, 10, none⟩ = some (.bool b3) := pw_cell_below HW.out (HARR.out 10)
        have q4 : wr.cell? ⟨w5.heap.size, 11, none⟩ = some (.int .u32 b4) := pw_cell_below HW.out (HARR.out 11)
        have q5 : wr.cell? ⟨w5.heap.size, 12, none⟩ = some (.int .u32 b5) := pw_cell_below HW.out (HARR.out 12)
        have q6 : wr.cell? ⟨w5.heap.size, 13, none⟩ = some (.int .i64 b6) := pw_cell_below HW.out (HARR.out 13)
        obtain ⟨cy0, cy1, cy2, cy3, cy4, cy5, cy6⟩ := HYR.out
        obtain ⟨cx0, cx1, cx2, cx3, cx4, cx5, cx6⟩ := HXR.out
        go_upto_region 10 with (fail)
        obtain ⟨w7, hw7⟩ : ∃ W, W = wr.alloc (.cells #[.bool b0, .bool b1, .bool b2, .bool b3, .int .u32 b4, .int .u32 b5, .int .i64 b6] 26) := ⟨_, rfl⟩
        have hb7 : Below wr.heap.size wr w7 := by rw [hw7]; exact below_alloc (Below.refl _ _) _
        have HZ7 := Aside0.mk (show Cfg w7 wr.heap.size b0 b1 b2 b3 b4 b5 b6 from ⟨by rw [hw7]; exact cell_of_row _ _ 0 _ 26 (0, 0) (heap_alloc_new wr _), by rw [hw7]; exact cell_of_row _ _ 1 _ 26 (0, 0) (heap_alloc_new wr _), by rw [hw7]; exact cell_of_row _ _ 2 _ 26 (0, 0) (heap_alloc_new wr _), by rw [hw7]; exact cell_of_row _ _ 3 _ 26 (0, 0) (heap_alloc_new wr _), by rw [hw7]; exact cell_of_row _ _ 4 _ 26 (0, 0) (heap_alloc_new wr _), by rw [hw7]; exact cell_of_row _ _ 5 _ 26 (0, 0) (heap_alloc_new wr _), by rw [hw7]; exact cell_of_row _ _ 6 _ 26 (0, 0) (heap_alloc_new wr _)⟩)
        rw [← hw7]
        have HW7 := Aside0.mk (below_step HW.out hb7)
        have HBR7 := Aside0.mk (below_step HBR.out hb7)
        have HX7 := Aside0.mk (HXR.out.below hb7)
        have HY7 := Aside0.mk (HYR.out.below hb7)
        have HQ7 := Aside0.mk (Kd.C_below HQR.out hb7)
        clear hw7 hb7 q0 q1 q2 q3 q4 q5 q6 cx0 cx1 cx2 cx3 cx4 cx5 cx6 cy0 cy1 cy2 cy3 cy4 cy5 cy6 HXR HYR HAR HQR HBR
        obtain ⟨cy0, cy1, cy2, cy3, cy4, cy5, cy6⟩ := HY7.out
        obtain ⟨cx0, cx1, cx2, cx3, cx4, cx5, cx6⟩ := HX7.out
        obtain ⟨cz0, cz1, cz2, cz3, cz4, cz5, cz6⟩ := HZ7.out
        go_wp2_with fail
        refine (config_Fits.calls 3 a0 a1 a2 a3 a4 a5 a6 b0 b1 b2 b3 b4 b5 b6 fv _ HFV.out).mono ?_
        rintro e w8 ⟨rfl, hd8⟩
        have HD8 := Aside0.mk hd8
        have HW8 := Aside0.mk (below_step HW7.out hd8)
        have HBR8 := Aside0.mk (below_step HBR7.out hd8)
        clear cy0 cy1 cy2 cy3 cy4 cy5 cy6 cx0 cx1 cx2 cx3 cx4 cx5 cx6 cz0 cz1 cz2 cz3 cz4 cz5 cz6
        obtain ⟨cz0, cz1, cz2, cz3, cz4, cz5, cz6⟩ := HZ7.out.below hd8
        clear hd8
        cases hfv : fv with
        | false =>
          clear hfv
          go_wp2_with fail
          go_roundw
          case rel => exact ⟨Or.inr (Or.inr rfl), HW8⟩
          case measure => simp [intOf]
        | true =>
          have HPB := Aside0.mk (HPB0.out hfv)
          clear hfv
          go_wp2_with fail
          refine (frame_Parse.calls 3 b0 b1 b2 b3 b4 b5 b6 A5 c5 L5 x l 0 _ (Kd.C_below HQ7.out HD8.out) HC5.out (GF_below HGF.out HBR8.out) (GH_below HGH.out HBR8.out) HPB.out).mono ?_
          rintro e w9 ⟨v9, rfl, ho9, hb9⟩
          obtain ⟨A9, c9, rfl, hc9, hq9⟩ := Kd.R_reads ho9
          have HW9 := Aside0.mk (below_step HW8.out hb9)
          have HB9 := Aside0.mk (below_step HBR8.out hb9)
          clear ho9 hb9 cz0 cz1 cz2 cz3 cz4 cz5 cz6
          have HQ9 := Aside0.mk hq9
          have HC9 := Aside0.mk hc9
          clear hq9 hc9
          go_wp2_with fail
          refine (marlineref01_Equal.calls 401 A9 c9 l A cap l true _ HQ9.out HC9.out (Kd.C_below HR.out HB9.out) HC.out HEQ.out).mono ?_
          rintro e w10 ⟨rfl, ⟨nd, rfl⟩⟩
          go_wp2_with fail
          go_roundw
          case rel => exact ⟨Or.inr (Or.inr rfl), ⟨pw_below_drewN HW9.out _⟩⟩
          case measure => simp [intOf]
      · obtain ⟨cx0, cx1, cx2, cx3, cx4, cx5, cx6⟩ := HXR.out
        go_wp2_with fail
        refine (config_Most.calls a0 a1 a2 a3 a4 a5 a6 mv _ (GF_below HGF.out HBR.out) HMV.out).mono ?_
        rintro e w8 ⟨rfl, hb8⟩
        have e1 := (HAR.out.below hb8).c1
        have HB8 := Aside0.mk (below_step HBR.out hb8)
        clear hb8 cx0 cx1 cx2 cx3 cx4 cx5 cx6
        go_wp2_with fail
        refine (fcs_Size.calls a1 sv _ (GF_below HGF.out HB8.out) HSV.out).mono ?_
        rintro e w9 ⟨rfl, hb9⟩
        have HB9 := Aside0.mk (below_step HB8.out hb9)
        clear hb9 e1
        go_wp2_with fail
        go_ret
        exact ⟨rfl, HB9.out⟩
end Go.Proofs.YtggpejjfgphihaaDoor.Wk
end
