/- Laid together by wip/prune.py: what the claim needs of the session's texts and of the print program's words. -/
import Derived.Test.YtggpejjfgphihaaDoorMgFrameParts1
import Derived.Test.YtggpejjfgphihaaDoorProg
import Derived.Below
import Derived.Deep.Draws
import Derived.Deep.AppendLies
import Derived.Maps.AppendAt
import Derived.OwnWalk
import Derived.Laws.BytesArg
import Derived.Laws.MakeOwn
import Derived.Laws.OwnMore
import Derived.Deep.OwnRows
import Derived.Tactics
import Derived.Lib.ConvBytes
import Derived.Laws.Slices
import Derived.WalkKit
import Derived.KernelRfl
import Derived.RowKit3
import Derived.Deep.LoopGhost
import Derived.Deep.QuietTactic
import Derived.BigQuiet
import Derived.WideLaws
import Derived.Deep.DeepCutAuto
import Derived.Deep.CutBlock
import Derived.Deep.RegionHeld3
import Derived.Laws.Rows
import Derived.Lib.AppendStr
import Derived.ArgAppend
import Derived.Laws.IdiomCopy
import Derived.OrdersHeld
import Derived.Laws.BitsLemmas
import Derived.RowKit
section
namespace Go.Proofs.YtggpejjfgphihaaDoor.E
open Go.Proofs.YtggpejjfgphihaaDoor.Given Go.Proofs.YtggpejjfgphihaaDoor.D Go.Proofs.YtggpejjfgphihaaDoor.H Go.RowKit Go.Proofs.YtggpejjfgphihaaDoorW.PrintWords Go.Proofs.YtggpejjfgphihaaDoorW.PrintLast Go.Proofs.YtggpejjfgphihaaDoorW.PrintMore
attribute [local go_sem] max2_int min2_int max_two min_two max_three min_three max_four min_four
open Go.Proofs.YtggpejjfgphihaaDoor.C (config_Most.f config_Most.calls marlineref08_Check.f marlineref08_Check.calls)
set_option linter.unusedVariables false
set_option linter.unusedSimpArgs false
def frame_Parse.f (k : Nat) (a0_0 : Bool) (a0_1 : Bool) (a0_2 : Bool) (a0_3 : Bool) (a0_4 : Int) (a0_5 : Int) (a0_6 : Int) (l1 : List Int) : Option (Int × List Int × Int) := (fcs_Size.f a0_1).bind fun t102 => ((config_Most.f a0_0 a0_1 a0_2 a0_3 a0_4 a0_5 a0_6).bind fun t103 => (if (l1.length : Int) > t103 then (some (0, ([] : List Int), 3)) else (if (l1.length : Int) ≤ t102 then (some (0, ([] : List Int), 2)) else ((fcs_Good.f a0_1 l1).bind fun t104 => (if t104 = true then (if 0 ≤ (wrap64 ((l1.length : Int) - t102)) then (if (wrap64 ((l1.length : Int) - t102)) ≤ (l1.length : Int) then ((head_Get.f k a0_0 a0_1 a0_2 a0_3 a0_4 a0_5 a0_6 (l1.take ((wrap64 ((l1.length : Int) - t102)) : Int).toNat)).bind fun bt106 => (if bt106.2.2 = 0 then (if 0 ≤ bt106.2.1 then (if bt106.2.1 ≤ ((l1.take ((wrap64 ((l1.length : Int) - t102)) : Int).toNat).length : Int) then ((slices_Clone_byte_byte.f ((l1.take ((wrap64 ((l1.length : Int) - t102)) : Int).toNat).drop (bt106.2.1 : Int).toNat)).bind fun t110 => (if (t110.length : Int) > a0_6 then (some (0, ([] : List Int), 3)) else (some (bt106.1, t110, 0)))) else (none)) else (none)) else (some (0, ([] : List Int), bt106.2.2)))) else (none)) else (none)) else (some (0, ([] : List Int), 6)))))))
set_option maxHeartbeats 8000000 in
set_option maxRecDepth 100000 in
theorem frame_Parse.calls (k : Nat) (a0_0 : Bool) (a0_1 : Bool) (a0_2 : Bool) (a0_3 : Bool) (a0_4 : Int) (a0_5 : Int) (a0_6 : Int) (A1 : Option Addr) (c1 : Nat) (l1 : List Int) (r1 : Int) (r2 : List Int) (r3 : Int) (w : World) (hr1 : Kd.C (Kd.int .u8) w A1 l1.length l1) (hc1 : l1.length ≤ c1) (hgF : GF w) (hgH : GH w) (h : frame_Parse.f k a0_0 a0_1 a0_2 a0_3 a0_4 a0_5 a0_6 l1 = some (r1, r2, r3)) :
    Calls Tryd.prog 49 #[.agg #[.bool a0_0, .bool a0_1, .bool a0_2, .bool a0_3, .int .u32 a0_4, .int .u32 a0_5, .int .i64 a0_6], .slice A1 l1.length c1] w fun e w' => ∃ v1_ : Value, e = .returned (.tuple #[.int .u16 r1, v1_, .int .i64 r3]) ∧ Kd.R (Kd.int .u8) 5 w' w.heap.size (fun _ => True) v1_ r2 ∧ Below w.heap.size w w' := by
  have hu26 := Tryd.underlying26
  have HGF := Aside0.mk hgF
  clear hgF
  have HGH := Aside0.mk hgH
  clear hgH
  have HR1 := Aside0.mk hr1
  have HC1 := Aside0.mk hc1
  clear hr1 hc1
  have HB := Aside0.mk (Below.refl w.heap.size w)
  have H : ((fcs_Size.f a0_1).bind fun t102 => ((config_Most.f a0_0 a0_1 a0_2 a0_3 a0_4 a0_5 a0_6).bind fun t103 => (if (l1.length : Int) > t103 then (some (0, ([] : List Int), 3)) else (if (l1.length : Int) ≤ t102 then (some (0, ([] : List Int), 2)) else ((fcs_Good.f a0_1 l1).bind fun t104 => (if t104 = true then (if 0 ≤ (wrap64 ((l1.length : Int) - t102)) then (if (wrap64 ((l1.length : Int) - t102)) ≤ (l1.length : Int) then ((head_Get.f k a0_0 a0_1 a0_2 a0_3 a0_4 a0_5 a0_6 (l1.take ((wrap64 ((l1.length : Int) - t102)) : Int).toNat)).bind fun bt106 => (if bt106.2.2 = 0 then (if 0 ≤ bt106.2.1 then (if bt106.2.1 ≤ ((l1.take ((wrap64 ((l1.length : Int) - t102)) : Int).toNat).length : Int) then ((slices_Clone_byte_byte.f ((l1.take ((wrap64 ((l1.length : Int) - t102)) : Int).toNat).drop (bt106.2.1 : Int).toNat)).bind fun t110 => (if (t110.length : Int) > a0_6 then (some (0, ([] : List Int), 3)) else (some (bt106.1, t110, 0)))) else (none)) else (none)) else (some (0, ([] : List Int), bt106.2.2)))) else (none)) else (none)) else (some (0, ([] : List Int), 6)))))))) = some (r1, r2, r3) := h
  clear h
  replace H := Option.bind_eq_some_iff.mp H
  obtain ⟨t102, A30, H⟩ := H
  replace H : ((config_Most.f a0_0 a0_1 a0_2 a0_3 a0_4 a0_5 a0_6).bind fun t103 => (if (l1.length : Int) > t103 then (some (0, ([] : List Int), 3)) else (if (l1.length : Int) ≤ t102 then (some (0, ([] : List Int), 2)) else ((fcs_Good.f a0_1 l1).bind fun t104 => (if t104 = true then (if 0 ≤ (wrap64 ((l1.length : Int) - t102)) then (if (wrap64 ((l1.length : Int) - t102)) ≤ (l1.length : Int) then ((head_Get.f k a0_0 a0_1 a0_2 a0_3 a0_4 a0_5 a0_6 (l1.take ((wrap64 ((l1.length : Int) - t102)) : Int).toNat)).bind fun bt106 => (if bt106.2.2 = 0 then (if 0 ≤ bt106.2.1 then (if bt106.2.1 ≤ ((l1.take ((wrap64 ((l1.length : Int) - t102)) : Int).toNat).length : Int) then ((slices_Clone_byte_byte.f ((l1.take ((wrap64 ((l1.length : Int) - t102)) : Int).toNat).drop (bt106.2.1 : Int).toNat)).bind fun t110 => (if (t110.length : Int) > a0_6 then (some (0, ([] : List Int), 3)) else (some (bt106.1, t110, 0)))) else (none)) else (none)) else (some (0, ([] : List Int), bt106.2.2)))) else (none)) else (none)) else (some (0, ([] : List Int), 6))))))) = some (r1, r2, r3) := H
  have A3 := Aside0.mk A30
  clear A30
  replace H := Option.bind_eq_some_iff.mp H
  obtain ⟨t103, A40, H⟩ := H
  replace H : (if (l1.length : Int) > t103 then (some (0, ([] : List Int), 3)) else (if (l1.length : Int) ≤ t102 then (some (0, ([] : List Int), 2)) else ((fcs_Good.f a0_1 l1).bind fun t104 => (if t104 = true then (if 0 ≤ (wrap64 ((l1.length : Int) - t102)) then (if (wrap64 ((l1.length : Int) - t102)) ≤ (l1.length : Int) then ((head_Get.f k a0_0 a0_1 a0_2 a0_3 a0_4 a0_5 a0_6 (l1.take ((wrap64 ((l1.length : Int) - t102)) : Int).toNat)).bind fun bt106 => (if bt106.2.2 = 0 then (if 0 ≤ bt106.2.1 then (if bt106.2.1 ≤ ((l1.take ((wrap64 ((l1.length : Int) - t102)) : Int).toNat).length : Int) then ((slices_Clone_byte_byte.f ((l1.take ((wrap64 ((l1.length : Int) - t102)) : Int).toNat).drop (bt106.2.1 : Int).toNat)).bind fun t110 => (if (t110.length : Int) > a0_6 then (some (0, ([] : List Int), 3)) else (some (bt106.1, t110, 0)))) else (none)) else (none)) else (some (0, ([] : List Int), bt106.2.2)))) else (none)) else (none)) else (some (0, ([] : List Int), 6)))))) = some (r1, r2, r3) := H
  have A4 := Aside0.mk A40
  clear A40
  by_cases c5 : (l1.length : Int) > t103
  · rw [if_pos c5] at H
    have c5b0 : decide (t103 < (l1.length : Int)) = true := decide_eq_true c5
    clear c5
    simp only [Option.some.injEq, Prod.mk.injEq] at H
    obtain ⟨rfl, rfl, rfl⟩ := H
    go_enter Tryd.func49, Tryd.ntmps49
    go_wp2_with (first | ((with_reducible refine gate_dst (N := 2) rfl ?_); refine box_event ?hg (N := 2) ?hd (cs := #[.bool a0_0, .bool a0_1, .bool a0_2, .bool a0_3, .int .u32 a0_4, .int .u32 a0_5, .int .i64 a0_6]) (t := 26) ?hr ?_; (case hd => rfl); (case hg => rfl); (case hr => first | (go_simp; done) | (go_simp; rfl)); intro gb101 hg w6 hbox hb; have n0_ := Aside0.mk (below_step (by repeat (first | (with_reducible first | exact HB.out | apply below_alloc | apply pw_below_drewN | apply below_drew1) | exact HB.out)) hb); have n1_ := Aside0.mk (hbox); have n2_ := Aside0.mk ((by rw [hg]; exact (below_size (by repeat (first | (with_reducible first | exact HB.out | apply below_alloc | apply pw_below_drewN | apply below_drew1) | exact HB.out))) : w.heap.size ≤ gb101)); have n3_ := Aside0.mk ((by rw [hg]; exact (below_size (by repeat (first | (with_reducible first | exact HB.out | apply below_alloc | apply pw_below_drewN | apply below_drew1) | exact HB.out))) : w.heap.size ≤ gb101)); clear HB; have HB := n0_; have BK101 := n1_; have GW101 := n2_; have GE101 := n3_; clear n0_ n1_ n2_ n3_; clear hb hbox hg; have hcz7_0 : w6.cell? ⟨gb101, 0, none⟩ = some (.bool a0_0) := (blk_cell BK101.out 0).trans rfl; have hcz7_1 : w6.cell? ⟨gb101, 1, none⟩ = some (.bool a0_1) := (blk_cell BK101.out 1).trans rfl; have hcz7_2 : w6.cell? ⟨gb101, 2, none⟩ = some (.bool a0_2) := (blk_cell BK101.out 2).trans rfl; have hcz7_3 : w6.cell? ⟨gb101, 3, none⟩ = some (.bool a0_3) := (blk_cell BK101.out 3).trans rfl; have hcz7_4 : w6.cell? ⟨gb101, 4, none⟩ = some (.int .u32 a0_4) := (blk_cell BK101.out 4).trans rfl; have hcz7_5 : w6.cell? ⟨gb101, 5, none⟩ = some (.int .u32 a0_5) := (blk_cell BK101.out 5).trans rfl; have hcz7_6 : w6.cell? ⟨gb101, 6, none⟩ = some (.int .i64 a0_6) := (blk_cell BK101.out 6).trans rfl; have hfz7_0 := blk_frozen BK101.out 0; have hfz7_1 := blk_frozen BK101.out 1; have hfz7_2 := blk_frozen BK101.out 2; have hfz7_3 := blk_frozen BK101.out 3; have hfz7_4 := blk_frozen BK101.out 4; have hfz7_5 := blk_frozen BK101.out 5; have hfz7_6 := blk_frozen BK101.out 6) | ((with_reducible refine gate_callee (f := 41) rfl ?_); refine goesL_ (some 14) rfl rfl Tryd.func41 (by kernel_rfl) rfl #[.bool a0_1] rfl (by (try simp only [List.map_toArray, List.map_cons, List.map_nil]); first | done | rfl | (simp only [List.length_drop, List.length_take]; rfl)) ?_; (with_reducible refine (fcs_Size.calls a0_1 t102 _ ?side1 A3.out).mono ?_); (case side1 => repeat (first | exact (GF_below HGF.out HB.out) | (with_reducible refine GF_alloc ?_ _) | (with_reducible refine GF_drewN ?_ _) | (with_reducible refine GF_drew ?_))); rintro e w8 ⟨rfl, hb⟩; refine ⟨_, rfl, ?_⟩; have n0_ := Aside0.mk (blk_below (g := gb101) (o := .cells #[.bool a0_0, .bool a0_1, .bool a0_2, .bool a0_3, .int .u32 a0_4, .int .u32 a0_5, .int .i64 a0_6] 26 (0, 0)) (by (with_reducible repeat (first | refine blk_drewN ?_ _ | refine blk_drew ?_ | refine blk_alloc ?_ _)); exact BK101.out) hb); have n1_ := Aside0.mk (below_step (by repeat (first | (with_reducible first | exact HB.out | apply below_alloc | apply pw_below_drewN | apply below_drew1 | refine below_set ?_ GE101.out) | exact HB.out)) hb); clear BK101; clear HB; have BK101 := n0_; have HB := n1_; clear n0_ n1_; (try clear hb); (try clear hb2); (try clear hk); (try clear hi); have hcz9_0 : w8.cell? ⟨gb101, 0, none⟩ = some (.bool a0_0) := (blk_cell BK101.out 0).trans rfl; have hcz9_1 : w8.cell? ⟨gb101, 1, none⟩ = some (.bool a0_1) := (blk_cell BK101.out 1).trans rfl; have hcz9_2 : w8.cell? ⟨gb101, 2, none⟩ = some (.bool a0_2) := (blk_cell BK101.out 2).trans rfl; have hcz9_3 : w8.cell? ⟨gb101, 3, none⟩ = some (.bool a0_3) := (blk_cell BK101.out 3).trans rfl; have hcz9_4 : w8.cell? ⟨gb101, 4, none⟩ = some (.int .u32 a0_4) := (blk_cell BK101.out 4).trans rfl; have hcz9_5 : w8.cell? ⟨gb101, 5, none⟩ = some (.int .u32 a0_5) := (blk_cell BK101.out 5).trans rfl; have hcz9_6 : w8.cell? ⟨gb101, 6, none⟩ = some (.int .i64 a0_6) := (blk_cell BK101.out 6).trans rfl; have hfz9_0 := blk_frozen BK101.out 0; have hfz9_1 := blk_frozen BK101.out 1; have hfz9_2 := blk_frozen BK101.out 2; have hfz9_3 := blk_frozen BK101.out 3; have hfz9_4 := blk_frozen BK101.out 4; have hfz9_5 := blk_frozen BK101.out 5; have hfz9_6 := blk_frozen BK101.out 6) | ((with_reducible refine gate_callee (f := 20) rfl ?_); refine goesL_ (some 19) rfl rfl Tryd.func20 (by kernel_rfl) rfl #[.agg #[.bool a0_0, .bool a0_1, .bool a0_2, .bool a0_3, .int .u32 a0_4, .int .u32 a0_5, .int .i64 a0_6]] rfl (by (try simp only [List.map_toArray, List.map_cons, List.map_nil]); first | done | rfl | (simp only [List.length_drop, List.length_take]; rfl)) ?_; (with_reducible refine (config_Most.calls a0_0 a0_1 a0_2 a0_3 a0_4 a0_5 a0_6 t103 _ ?side1 A4.out).mono ?_); (case side1 => repeat (first | exact (GF_below HGF.out HB.out) | (with_reducible refine GF_alloc ?_ _) | (with_reducible refine GF_drewN ?_ _) | (with_reducible refine GF_drew ?_))); rintro e w10 ⟨rfl, hb⟩; refine ⟨_, rfl, ?_⟩; have n0_ := Aside0.mk (blk_below (g := gb101) (o := .cells #[.bool a0_0, .bool a0_1, .bool a0_2, .bool a0_3, .int .u32 a0_4, .int .u32 a0_5, .int .i64 a0_6] 26 (0, 0)) (by (with_reducible repeat (first | refine blk_drewN ?_ _ | refine blk_drew ?_ | refine blk_alloc ?_ _)); exact BK101.out) hb); have n1_ := Aside0.mk (below_step (by repeat (first | (with_reducible first | exact HB.out | apply below_alloc | apply pw_below_drewN | apply below_drew1 | refine below_set ?_ GE101.out) | exact HB.out)) hb); clear BK101; clear HB; have BK101 := n0_; have HB := n1_; clear n0_ n1_; (try clear hb); (try clear hb2); (try clear hk); (try clear hi)))
    go_ret3
    exact ⟨_, by first | rfl | (simp [errW_none, errW_some] <;> rfl) | (simp [*, errW_none, errW_some] <;> rfl), by first | exact Kd.R_nil _ _ _ _ _ | exact Kd.N_nil _ _ _ _ _ | exact Kd.V_nil _ _ _ _ _ | exact Kd.Q_nil _ _ _ _ _ | exact Kd.S_nil _ _ _ _ _, by repeat (first | (with_reducible first | exact HB.out | apply below_alloc | apply pw_below_drewN | apply below_drew1 | refine below_set ?_ GE101.out) | exact HB.out)⟩
  · rw [if_neg c5] at H
    have c5b0 : decide (t103 < (l1.length : Int)) = false := decide_eq_false c5
    clear c5
    by_cases c11 : (l1.length : Int) ≤ t102
    · rw [if_pos c11] at H
      have c11b0 : decide ((l1.length : Int) ≤ t102) = true := decide_eq_true c11
      clear c11
      simp only [Option.some.injEq, Prod.mk.injEq] at H
      obtain ⟨rfl, rfl, rfl⟩ := H
      go_enter Tryd.func49, Tryd.ntmps49
      go_wp2_with (first | ((with_reducible refine gate_dst (N := 2) rfl ?_); refine box_event ?hg (N := 2) ?hd (cs := #[.bool a0_0, .bool a0_1, .bool a0_2, .bool a0_3, .int .u32 a0_4, .int .u32 a0_5, .int .i64 a0_6]) (t := 26) ?hr ?_; (case hd => rfl); (case hg => rfl); (case hr => first | (go_simp; done) | (go_simp; rfl)); intro gb101 hg w12 hbox hb; have n0_ := Aside0.mk (below_step (by repeat (first | (with_reducible first | exact HB.out | apply below_alloc | apply pw_below_drewN | apply below_drew1) | exact HB.out)) hb); have n1_ := Aside0.mk (hbox); have n2_ := Aside0.mk ((by rw [hg]; exact (below_size (by repeat (first | (with_reducible first | exact HB.out | apply below_alloc | apply pw_below_drewN | apply below_drew1) | exact HB.out))) : w.heap.size ≤ gb101)); have n3_ := Aside0.mk ((by rw [hg]; exact (below_size (by repeat (first | (with_reducible first | exact HB.out | apply below_alloc | apply pw_below_drewN | apply below_drew1) | exact HB.out))) : w.heap.size ≤ gb101)); clear HB; have HB := n0_; have BK101 := n1_; have GW101 := n2_; have GE101 := n3_; clear n0_ n1_ n2_ n3_; clear hb hbox hg; have hcz13_0 : w12.cell? ⟨gb101, 0, none⟩ = some (.bool a0_0) := (blk_cell BK101.out 0).trans rfl; have hcz13_1 : w12.cell? ⟨gb101, 1, none⟩ = some (.bool a0_1) := (blk_cell BK101.out 1).trans rfl; have hcz13_2 : w12.cell? ⟨gb101, 2, none⟩ = some (.bool a0_2) := (blk_cell BK101.out 2).trans rfl; have hcz13_3 : w12.cell? ⟨gb101, 3, none⟩ = some (.bool a0_3) := (blk_cell BK101.out 3).trans rfl; have hcz13_4 : w12.cell? ⟨gb101, 4, none⟩ = some (.int .u32 a0_4) := (blk_cell BK101.out 4).trans rfl; have hcz13_5 : w12.cell? ⟨gb101, 5, none⟩ = some (.int .u32 a0_5) := (blk_cell BK101.out 5).trans rfl; have hcz13_6 : w12.cell? ⟨gb101, 6, none⟩ = some (.int .i64 a0_6) := (blk_cell BK101.out 6).trans rfl; have hfz13_0 := blk_frozen BK101.out 0; have hfz13_1 := blk_frozen BK101.out 1; have hfz13_2 := blk_frozen BK101.out 2; have hfz13_3 := blk_frozen BK101.out 3; have hfz13_4 := blk_frozen BK101.out 4; have hfz13_5 := blk_frozen BK101.out 5; have hfz13_6 := blk_frozen BK101.out 6) | ((with_reducible refine gate_callee (f := 41) rfl ?_); refine goesL_ (some 14) rfl rfl Tryd.func41 (by kernel_rfl) rfl #[.bool a0_1] rfl (by (try simp only [List.map_toArray, List.map_cons, List.map_nil]); first | done | rfl | (simp only [List.length_drop, List.length_take]; rfl)) ?_; (with_reducible refine (fcs_Size.calls a0_1 t102 _ ?side1 A3.out).mono ?_); (case side1 => repeat (first | exact (GF_below HGF.out HB.out) | (with_reducible refine GF_alloc ?_ _) | (with_reducible refine GF_drewN ?_ _) | (with_reducible refine GF_drew ?_))); rintro e w14 ⟨rfl, hb⟩; refine ⟨_, rfl, ?_⟩; have n0_ := Aside0.mk (blk_below (g := gb101) (o := .cells #[.bool a0_0, .bool a0_1, .bool a0_2, .bool a0_3, .int .u32 a0_4, .int .u32 a0_5, .int .i64 a0_6] 26 (0, 0)) (by (with_reducible repeat (first | refine blk_drewN ?_ _ | refine blk_drew ?_ | refine blk_alloc ?_ _)); exact BK101.out) hb); have n1_ := Aside0.mk (below_step (by repeat (first | (with_reducible first | exact HB.out | apply below_alloc | apply pw_below_drewN | apply below_drew1 | refine below_set ?_ GE101.out) | exact HB.out)) hb); clear BK101; clear HB; have BK101 := n0_; have HB := n1_; clear n0_ n1_; (try clear hb); (try clear hb2); (try clear hk); (try clear hi); have hcz15_0 : w14.cell? ⟨gb101, 0, none⟩ = some (.bool a0_0) := (blk_cell BK101.out 0).trans rfl; have hcz15_1 : w14.cell? ⟨gb101, 1, none⟩ = some (.bool a0_1) := (blk_cell BK101.out 1).trans rfl; have hcz15_2 : w14.cell? ⟨gb101, 2, none⟩ = some (.bool a0_2) := (blk_cell BK101.out 2).trans rfl; have hcz15_3 : w14.cell? ⟨gb101, 3, none⟩ = some (.bool a0_3) := (blk_cell BK101.out 3).trans rfl; have hcz15_4 : w14.cell? ⟨gb101, 4, none⟩ = some (.int .u32 a0_4) := (blk_cell BK101.out 4).trans rfl; have hcz15_5 : w14.cell? ⟨gb101, 5, none⟩ = some (.int .u32 a0_5) := (blk_cell BK101.out 5).trans rfl; have hcz15_6 : w14.cell? ⟨gb101, 6, none⟩ = some (.int .i64 a0_6) := (blk_cell BK101.out 6).trans rfl; have hfz15_0 := blk_frozen BK101.out 0; have hfz15_1 := blk_frozen BK101.out 1; have hfz15_2 := blk_frozen BK101.out 2; have hfz15_3 := blk_frozen BK101.out 3; have hfz15_4 := blk_frozen BK101.out 4; have hfz15_5 := blk_frozen BK101.out 5; have hfz15_6 := blk_frozen BK101.out 6) | ((with_reducible refine gate_callee (f := 20) rfl ?_); refine goesL_ (some 19) rfl rfl Tryd.func20 (by kernel_rfl) rfl #[.agg #[.bool a0_0, .bool a0_1, .bool a0_2, .bool a0_3, .int .u32 a0_4, .int .u32 a0_5, .int .i64 a0_6]] rfl (by (try simp only [List.map_toArray, List.map_cons, List.map_nil]); first | done | rfl | (simp only [List.length_drop, List.length_take]; rfl)) ?_; (with_reducible refine (config_Most.calls a0_0 a0_1 a0_2 a0_3 a0_4 a0_5 a0_6 t103 _ ?side1 A4.out).mono ?_); (case side1 => repeat (first | exact (GF_below HGF.out HB.out) | (with_reducible refine GF_alloc ?_ _) | (with_reducible refine GF_drewN ?_ _) | (with_reducible refine GF_drew ?_))); rintro e w16 ⟨rfl, hb⟩; refine ⟨_, rfl, ?_⟩; have n0_ := Aside0.mk (blk_below (g := gb101) (o := .cells #[.bool a0_0, .bool a0_1, .bool a0_2, .bool a0_3, .int .u32 a0_4, .int .u32 a0_5, .int .i64 a0_6] 26 (0, 0)) (by (with_reducible repeat (first | refine blk_drewN ?_ _ | refine blk_drew ?_ | refine blk_alloc ?_ _)); exact BK101.out) hb); have n1_ := Aside0.mk (below_step (by repeat (first | (with_reducible first | exact HB.out | apply below_alloc | apply pw_below_drewN | apply below_drew1 | refine below_set ?_ GE101.out) | exact HB.out)) hb); clear BK101; clear HB; have BK101 := n0_; have HB := n1_; clear n0_ n1_; (try clear hb); (try clear hb2); (try clear hk); (try clear hi)))
      go_ret3
      exact ⟨_, by first | rfl | (simp [errW_none, errW_some] <;> rfl) | (simp [*, errW_none, errW_some] <;> rfl), by first | exact Kd.R_nil _ _ _ _ _ | exact Kd.N_nil _ _ _ _ _ | exact Kd.V_nil _ _ _ _ _ | exact Kd.Q_nil _ _ _ _ _ | exact Kd.S_nil _ _ _ _ _, by repeat (first | (with_reducible first | exact HB.out | apply below_alloc | apply pw_below_drewN | apply below_drew1 | refine below_set ?_ GE101.out) | exact HB.out)⟩
    · rw [if_neg c11] at H
      have c11b0 : decide ((l1.length : Int) ≤ t102) = false := decide_eq_false c11
      clear c11
      replace H := Option.bind_eq_some_iff.mp H
      obtain ⟨t104, A170, H⟩ := H
      replace H : (if t104 = true then (if 0 ≤ (wrap64 ((l1.length : Int) - t102)) then (if (wrap64 ((l1.length : Int) - t102)) ≤ (l1.length : Int) then ((head_Get.f k a0_0 a0_1 a0_2 a0_3 a0_4 a0_5 a0_6 (l1.take ((wrap64 ((l1.length : Int) - t102)) : Int).toNat)).bind fun bt106 => (if bt106.2.2 = 0 then (if 0 ≤ bt106.2.1 then (if bt106.2.1 ≤ ((l1.take ((wrap64 ((l1.length : Int) - t102)) : Int).toNat).length : Int) then ((slices_Clone_byte_byte.f ((l1.take ((wrap64 ((l1.length : Int) - t102)) : Int).toNat).drop (bt106.2.1 : Int).toNat)).bind fun t110 => (if (t110.length : Int) > a0_6 then (some (0, ([] : List Int), 3)) else (some (bt106.1, t110, 0)))) else (none)) else (none)) else (some (0, ([] : List Int), bt106.2.2)))) else (none)) else (none)) else (some (0, ([] : List Int), 6))) = some (r1, r2, r3) := H
      have A17 := Aside0.mk A170
      clear A170
      by_cases c18 : t104 = true
      · subst c18
        have H1 : (if 0 ≤ (wrap64 ((l1.length : Int) - t102)) then (if (wrap64 ((l1.length : Int) - t102)) ≤ (l1.length : Int) then ((head_Get.f k a0_0 a0_1 a0_2 a0_3 a0_4 a0_5 a0_6 (l1.take ((wrap64 ((l1.length : Int) - t102)) : Int).toNat)).bind fun bt106 => (if bt106.2.2 = 0 then (if 0 ≤ bt106.2.1 then (if bt106.2.1 ≤ ((l1.take ((wrap64 ((l1.length : Int) - t102)) : Int).toNat).length : Int) then ((slices_Clone_byte_byte.f ((l1.take ((wrap64 ((l1.length : Int) - t102)) : Int).toNat).drop (bt106.2.1 : Int).toNat)).bind fun t110 => (if (t110.length : Int) > a0_6 then (some (0, ([] : List Int), 3)) else (some (bt106.1, t110, 0)))) else (none)) else (none)) else (some (0, ([] : List Int), bt106.2.2)))) else (none)) else (none)) = some (r1, r2, r3) := by rw [if_pos rfl] at H; exact H
        clear H
        have H := H1
        clear H1
        obtain ⟨ji19, hji19⟩ : ∃ j_ : Int, (wrap64 ((l1.length : Int) - t102)) = j_ := ⟨_, rfl⟩
        replace H : (if 0 ≤ (ji19) then (if (ji19) ≤ (l1.length : Int) then ((head_Get.f k a0_0 a0_1 a0_2 a0_3 a0_4 a0_5 a0_6 (l1.take ((ji19) : Int).toNat)).bind fun bt106 => (if bt106.2.2 = 0 then (if 0 ≤ bt106.2.1 then (if bt106.2.1 ≤ ((l1.take ((ji19) : Int).toNat).length : Int) then ((slices_Clone_byte_byte.f ((l1.take ((ji19) : Int).toNat).drop (bt106.2.1 : Int).toNat)).bind fun t110 => (if (t110.length : Int) > a0_6 then (some (0, ([] : List Int), 3)) else (some (bt106.1, t110, 0)))) else (none)) else (none)) else (some (0, ([] : List Int), bt106.2.2)))) else (none)) else (none)) = some (r1, r2, r3) := by first | (rw [hji19] at H; exact H) | (simp only [hji19] at H ⊢; exact H)
        (try rw [hji19] at A3)
        (try rw [hji19] at A4)
        (try rw [hji19] at A17)
        have hji19w : (IntKind.i64.wrap ((l1.length : Int) - t102)) = ji19 := (i64_w _).trans hji19
        by_cases c20 : 0 ≤ (ji19)
        · rw [if_pos c20] at H
          have c20b0 := eq_true c20
          have c20b1 : decide (0 ≤ (ji19)) = true := decide_eq_true c20
          clear c20
          by_cases c21 : (ji19) ≤ (l1.length : Int)
          · rw [if_pos c21] at H
            have c21b0 := eq_true c21
            have c21b1 : decide ((ji19) ≤ (l1.length : Int)) = true := decide_eq_true c21
            clear c21
            replace H := Option.bind_eq_some_iff.mp H
            obtain ⟨⟨t106, t107, t108⟩, A220, H⟩ := H
            replace H : (if t108 = 0 then (if 0 ≤ t107 then (if t107 ≤ ((l1.take ((ji19) : Int).toNat).length : Int) then ((slices_Clone_byte_byte.f ((l1.take ((ji19) : Int).toNat).drop (t107 : Int).toNat)).bind fun t110 => (if (t110.length : Int) > a0_6 then (some (0, ([] : List Int), 3)) else (some (t106, t110, 0)))) else (none)) else (none)) else (some (0, ([] : List Int), t108))) = some (r1, r2, r3) := H
            have A22 := Aside0.mk A220
            clear A220
            by_cases c23 : t108 = 0
            · rw [if_pos c23] at H
              have c23b0 : (t108 == 0) = true := beq_iff_eq.mpr c23
              have c23b1 : (t108 != 0) = false := bne_eq_false_iff_eq.mpr c23
              clear c23
              by_cases c24 : 0 ≤ t107
              · rw [if_pos c24] at H
                have c24b0 := eq_true c24
                have c24b1 : decide (0 ≤ t107) = true := decide_eq_true c24
                clear c24
                by_cases c25 : t107 ≤ ((l1.take ((ji19) : Int).toNat).length : Int)
                · rw [if_pos c25] at H
                  have c25b0 := eq_true c25
                  have c25b1 : decide (t107 ≤ ((l1.take ((ji19) : Int).toNat).length : Int)) = true := decide_eq_true c25
                  clear c25
                  obtain ⟨cm1, hcm1⟩ : ∃ m_ : List Int, m_ = (l1.take ((ji19) : Int).toNat) := ⟨_, rfl⟩
                  rw [← hcm1] at H c25b0 c25b1 A22
                  have HCM1 := Aside0.mk hcm1
                  clear hcm1
                  obtain ⟨cm2, hcm2⟩ : ∃ m_ : List Int, m_ = (cm1.drop (t107 : Int).toNat) := ⟨_, rfl⟩
                  rw [← hcm2] at H
                  have HCM2 := Aside0.mk hcm2
                  clear hcm2
                  replace H := Option.bind_eq_some_iff.mp H
                  obtain ⟨t110, A260, H⟩ := H
                  replace H : (if (t110.length : Int) > a0_6 then (some (0, ([] : List Int), 3)) else (some (t106, t110, 0))) = some (r1, r2, r3) := H
                  have A26 := Aside0.mk A260
                  clear A260
                  by_cases c27 : (t110.length : Int) > a0_6
                  · rw [if_pos c27] at H
                    have c27b0 : decide (a0_6 < (t110.length : Int)) = true := decide_eq_true c27
                    clear c27
                    simp only [Option.some.injEq, Prod.mk.injEq] at H
                    obtain ⟨rfl, rfl, rfl⟩ := H
                    go_enter Tryd.func49, Tryd.ntmps49
                    go_wp2_with (first | ((with_reducible refine gate_dst (N := 2) rfl ?_); refine box_event ?hg (N := 2) ?hd (cs := #[.bool a0_0, .bool a0_1, .bool a0_2, .bool a0_3, .int .u32 a0_4, .int .u32 a0_5, .int .i64 a0_6]) (t := 26) ?hr ?_; (case hd => rfl); (case hg => rfl); (case hr => first | (go_simp; done) | (go_simp; rfl)); intro gb101 hg w28 hbox hb; have n0_ := Aside0.mk (below_step (by repeat (first | (with_reducible first | exact HB.out | apply below_alloc | apply pw_below_drewN | apply below_drew1) | exact HB.out)) hb); have n1_ := Aside0.mk (hbox); have n2_ := Aside0.mk ((by rw [hg]; exact (below_size (by repeat (first | (with_reducible first | exact HB.out | apply below_alloc | apply pw_below_drewN | apply below_drew1) | exact HB.out))) : w.heap.size ≤ gb101)); have n3_ := Aside0.mk ((by rw [hg]; exact (below_size (by repeat (first | (with_reducible first | exact HB.out | apply below_alloc | apply pw_below_drewN | apply below_drew1) | exact HB.out))) : w.heap.size ≤ gb101)); clear HB; have HB := n0_; have BK101 := n1_; have GW101 := n2_; have GE101 := n3_; clear n0_ n1_ n2_ n3_; clear hb hbox hg; have hcz29_0 : w28.cell? ⟨gb101, 0, none⟩ = some (.bool a0_0) := (blk_cell BK101.out 0).trans rfl; have hcz29_1 : w28.cell? ⟨gb101, 1, none⟩ = some (.bool a0_1) := (blk_cell BK101.out 1).trans rfl; have hcz29_2 : w28.cell? ⟨gb101, 2, none⟩ = some (.bool a0_2) := (blk_cell BK101.out 2).trans rfl; have hcz29_3 : w28.cell? ⟨gb101, 3, none⟩ = some (.bool a0_3) := (blk_cell BK101.out 3).trans rfl; have hcz29_4 : w28.cell? ⟨gb101, 4, none⟩ = some (.int .u32 a0_4) := (blk_cell BK101.out 4).trans rfl; have hcz29_5 : w28.cell? ⟨gb101, 5, none⟩ = some (.int .u32 a0_5) := (blk_cell BK101.out 5).trans rfl; have hcz29_6 : w28.cell? ⟨gb101, 6, none⟩ = some (.int .i64 a0_6) := (blk_cell BK101.out 6).trans rfl; have hfz29_0 := blk_frozen BK101.out 0; have hfz29_1 := blk_frozen BK101.out 1; have hfz29_2 := blk_frozen BK101.out 2; have hfz29_3 := blk_frozen BK101.out 3; have hfz29_4 := blk_frozen BK101.out 4; have hfz29_5 := blk_frozen BK101.out 5; have hfz29_6 := blk_frozen BK101.out 6) | ((with_reducible refine gate_callee (f := 41) rfl ?_); refine goesL_ (some 14) rfl rfl Tryd.func41 (by kernel_rfl) rfl #[.bool a0_1] rfl (by (try simp only [List.map_toArray, List.map_cons, List.map_nil]); first | done | rfl | (simp only [List.length_drop, List.length_take]; rfl)) ?_; (with_reducible refine (fcs_Size.calls a0_1 t102 _ ?side1 A3.out).mono ?_); (case side1 => repeat (first | exact (GF_below HGF.out HB.out) | (with_reducible refine GF_alloc ?_ _) | (with_reducible refine GF_drewN ?_ _) | (with_reducible refine GF_drew ?_))); rintro e w30 ⟨rfl, hb⟩; refine ⟨_, rfl, ?_⟩; have n0_ := Aside0.mk (blk_below (g := gb101) (o := .cells #[.bool a0_0, .bool a0_1, .bool a0_2, .bool a0_3, .int .u32 a0_4, .int .u32 a0_5, .int .i64 a0_6] 26 (0, 0)) (by (with_reducible repeat (first | refine blk_drewN ?_ _ | refine blk_drew ?_ | refine blk_alloc ?_ _)); exact BK101.out) hb); have n1_ := Aside0.mk (below_step (by repeat (first | (with_reducible first | exact HB.out | apply below_alloc | apply pw_below_drewN | apply below_drew1 | refine below_set ?_ GE101.out) | exact HB.out)) hb); clear BK101; clear HB; have BK101 := n0_; have HB := n1_; clear n0_ n1_; (try clear hb); (try clear hb2); (try clear hk); (try clear hi); have hcz31_0 : w30.cell? ⟨gb101, 0, none⟩ = some (.bool a0_0) := (blk_cell BK101.out 0).trans rfl; have hcz31_1 : w30.cell? ⟨gb101, 1, none⟩ = some (.bool a0_1) := (blk_cell BK101.out 1).trans rfl; have hcz31_2 : w30.cell? ⟨gb101, 2, none⟩ = some (.bool a0_2) := (blk_cell BK101.out 2).trans rfl; have hcz31_3 : w30.cell? ⟨gb101, 3, none⟩ = some (.bool a0_3) := (blk_cell BK101.out 3).trans rfl; have hcz31_4 : w30.cell? ⟨gb101, 4, none⟩ = some (.int .u32 a0_4) := (blk_cell BK101.out 4).trans rfl; have hcz31_5 : w30.cell? ⟨gb101, 5, none⟩ = some (.int .u32 a0_5) := (blk_cell BK101.out 5).trans rfl; have hcz31_6 : w30.cell? ⟨gb101, 6, none⟩ = some (.int .i64 a0_6) := (blk_cell BK101.out 6).trans rfl; have hfz31_0 := blk_frozen BK101.out 0; have hfz31_1 := blk_frozen BK101.out 1; have hfz31_2 := blk_frozen BK101.out 2; have hfz31_3 := blk_frozen BK101.out 3; have hfz31_4 := blk_frozen BK101.out 4; have hfz31_5 := blk_frozen BK101.out 5; have hfz31_6 := blk_frozen BK101.out 6) | ((with_reducible refine gate_callee (f := 20) rfl ?_); refine goesL_ (some 19) rfl rfl Tryd.func20 (by kernel_rfl) rfl #[.agg #[.bool a0_0, .bool a0_1, .bool a0_2, .bool a0_3, .int .u32 a0_4, .int .u32 a0_5, .int .i64 a0_6]] rfl (by (try simp only [List.map_toArray, List.map_cons, List.map_nil]); first | done | rfl | (simp only [List.length_drop, List.length_take]; rfl)) ?_; (with_reducible refine (config_Most.calls a0_0 a0_1 a0_2 a0_3 a0_4 a0_5 a0_6 t103 _ ?side1 A4.out).mono ?_); (case side1 => repeat (first | exact (GF_below HGF.out HB.out) | (with_reducible refine GF_alloc ?_ _) | (with_reducible refine GF_drewN ?_ _) | (with_reducible refine GF_drew ?_))); rintro e w32 ⟨rfl, hb⟩; refine ⟨_, rfl, ?_⟩; have n0_ := Aside0.mk (blk_below (g := gb101) (o := .cells #[.bool a0_0, .bool a0_1, .bool a0_2, .bool a0_3, .int .u32 a0_4, .int .u32 a0_5, .int .i64 a0_6] 26 (0, 0)) (by (with_reducible repeat (first | refine blk_drewN ?_ _ | refine blk_drew ?_ | refine blk_alloc ?_ _)); exact BK101.out) hb); have n1_ := Aside0.mk (below_step (by repeat (first | (with_reducible first | exact HB.out | apply below_alloc | apply pw_below_drewN | apply below_drew1 | refine below_set ?_ GE101.out) | exact HB.out)) hb); clear BK101; clear HB; have BK101 := n0_; have HB := n1_; clear n0_ n1_; (try clear hb); (try clear hb2); (try clear hk); (try clear hi); have hcz33_0 : w32.cell? ⟨gb101, 0, none⟩ = some (.bool a0_0) := (blk_cell BK101.out 0).trans rfl; have hcz33_1 : w32.cell? ⟨gb101, 1, none⟩ = some (.bool a0_1) := (blk_cell BK101.out 1).trans rfl; have hcz33_2 : w32.cell? ⟨gb101, 2, none⟩ = some (.bool a0_2) := (blk_cell BK101.out 2).trans rfl; have hcz33_3 : w32.cell? ⟨gb101, 3, none⟩ = some (.bool a0_3) := (blk_cell BK101.out 3).trans rfl; have hcz33_4 : w32.cell? ⟨gb101, 4, none⟩ = some (.int .u32 a0_4) := (blk_cell BK101.out 4).trans rfl; have hcz33_5 : w32.cell? ⟨gb101, 5, none⟩ = some (.int .u32 a0_5) := (blk_cell BK101.out 5).trans rfl; have hcz33_6 : w32.cell? ⟨gb101, 6, none⟩ = some (.int .i64 a0_6) := (blk_cell BK101.out 6).trans rfl; have hfz33_0 := blk_frozen BK101.out 0; have hfz33_1 := blk_frozen BK101.out 1; have hfz33_2 := blk_frozen BK101.out 2; have hfz33_3 := blk_frozen BK101.out 3; have hfz33_4 := blk_frozen BK101.out 4; have hfz33_5 := blk_frozen BK101.out 5; have hfz33_6 := blk_frozen BK101.out 6) | ((with_reducible refine gate_callee (f := 42) rfl ?_); refine goesL_ (some 30) rfl rfl Tryd.func42 (by kernel_rfl) rfl #[.bool a0_1, .slice A1 l1.length c1] rfl (by (try simp only [List.map_toArray, List.map_cons, List.map_nil]); first | done | rfl | (simp only [List.length_drop, List.length_take]; rfl)) ?_; (with_reducible refine (fcs_Good.calls a0_1 _ _ l1 true _ ?side1 ?side2 ?side3 A17.out).mono ?_); (case side1 => repeat (first | exact (Kd.C_below HR1.out HB.out) | (with_reducible refine Kd.C_alloc ?_ _) | (with_reducible refine Kd.C_drewN ?_ _) | (with_reducible refine Kd.C_drew ?_))); (case side2 => exact HC1.out); (case side3 => repeat (first | exact (GF_below HGF.out HB.out) | (with_reducible refine GF_alloc ?_ _) | (with_reducible refine GF_drewN ?_ _) | (with_reducible refine GF_drew ?_))); rintro e w34 ⟨rfl, hb⟩; refine ⟨_, rfl, ?_⟩; have n0_ := Aside0.mk (blk_below (g := gb101) (o := .cells #[.bool a0_0, .bool a0_1, .bool a0_2, .bool a0_3, .int .u32 a0_4, .int .u32 a0_5, .int .i64 a0_6] 26 (0, 0)) (by (with_reducible repeat (first | refine blk_drewN ?_ _ | refine blk_drew ?_ | refine blk_alloc ?_ _)); exact BK101.out) hb); have n1_ := Aside0.mk (below_step (by repeat (first | (with_reducible first | exact HB.out | apply below_alloc | apply pw_below_drewN | apply below_drew1 | refine below_set ?_ GE101.out) | exact HB.out)) hb); clear BK101; clear HB; have BK101 := n0_; have HB := n1_; clear n0_ n1_; (try clear hb); (try clear hb2); (try clear hk); (try clear hi); obtain ⟨i035, hi035, _, hsz35, _⟩ := info_parts info5; obtain ⟨hcut35, hA35, hC35⟩ := print_take_of (P := Tryd.prog) (Value.int .u8) 0 35 5 .i64 Tryd.underlying35 hi035 hsz35 A1 c1 l1 (ji19) (of_decide_eq_true (by first | (with_reducible assumption) | assumption)) (of_decide_eq_true (by first | (with_reducible assumption) | assumption)) HC1.out; rw [← HCM1.out] at hcut35 hA35 hC35; have HR105 := Aside0.mk (Kd.C_of_reads (h1 := fun _ => rfl) (hA35 _ (Kd.reads_of_C HR1.out))); have HC105 := Aside0.mk hC35; clear hA35 hC35 hi035 hsz35; have hcz36_0 : w34.cell? ⟨gb101, 0, none⟩ = some (.bool a0_0) := (blk_cell BK101.out 0).trans rfl; have hcz36_1 : w34.cell? ⟨gb101, 1, none⟩ = some (.bool a0_1) := (blk_cell BK101.out 1).trans rfl; have hcz36_2 : w34.cell? ⟨gb101, 2, none⟩ = some (.bool a0_2) := (blk_cell BK101.out 2).trans rfl; have hcz36_3 : w34.cell? ⟨gb101, 3, none⟩ = some (.bool a0_3) := (blk_cell BK101.out 3).trans rfl; have hcz36_4 : w34.cell? ⟨gb101, 4, none⟩ = some (.int .u32 a0_4) := (blk_cell BK101.out 4).trans rfl; have hcz36_5 : w34.cell? ⟨gb101, 5, none⟩ = some (.int .u32 a0_5) := (blk_cell BK101.out 5).trans rfl; have hcz36_6 : w34.cell? ⟨gb101, 6, none⟩ = some (.int .i64 a0_6) := (blk_cell BK101.out 6).trans rfl; have hfz36_0 := blk_frozen BK101.out 0; have hfz36_1 := blk_frozen BK101.out 1; have hfz36_2 := blk_frozen BK101.out 2; have hfz36_3 := blk_frozen BK101.out 3; have hfz36_4 := blk_frozen BK101.out 4; have hfz36_5 := blk_frozen BK101.out 5; have hfz36_6 := blk_frozen BK101.out 6) | ((with_reducible refine gate_callee (f := 29) rfl ?_); refine goesL_ (some 41) rfl rfl Tryd.func29 (by kernel_rfl) rfl #[.agg #[.bool a0_0, .bool a0_1, .bool a0_2, .bool a0_3, .int .u32 a0_4, .int .u32 a0_5, .int .i64 a0_6], .slice A1 cm1.length c1] rfl (by (try simp only [List.map_toArray, List.map_cons, List.map_nil]); first | done | (rw [show cm1.length = (ji19).toNat from (by rw [List.length_take]; have h_ : ((ji19) : Int) ≤ (l1.length : Int) := of_decide_eq_true (by first | (with_reducible assumption) | assumption); omega)] <;> rfl) | (simp only [hji19]; rfl) | rfl | (simp only [List.length_drop, List.length_take]; rfl)) ?_; (with_reducible refine (head_Get.calls k a0_0 a0_1 a0_2 a0_3 a0_4 a0_5 a0_6 _ _ cm1 t106 t107 t108 _ ?side1 ?side2 ?side3 A22.out).mono ?_); (case side1 => repeat (first | exact (Kd.C_below HR105.out HB.out) | (with_reducible refine Kd.C_alloc ?_ _) | (with_reducible refine Kd.C_drewN ?_ _) | (with_reducible refine Kd.C_drew ?_))); (case side2 => exact HC105.out); (case side3 => repeat (first | exact (GH_below HGH.out HB.out) | (with_reducible refine GH_alloc ?_ _) | (with_reducible refine GH_drewN ?_ _) | (with_reducible refine GH_drew ?_))); rintro e w37 ⟨rfl, hb⟩; refine ⟨_, rfl, ?_⟩; have n0_ := Aside0.mk (blk_below (g := gb101) (o := .cells #[.bool a0_0, .bool a0_1, .bool a0_2, .bool a0_3, .int .u32 a0_4, .int .u32 a0_5, .int .i64 a0_6] 26 (0, 0)) (by (with_reducible repeat (first | refine blk_drewN ?_ _ | refine blk_drew ?_ | refine blk_alloc ?_ _)); exact BK101.out) hb); have n1_ := Aside0.mk (below_step (by repeat (first | (with_reducible first | exact HB.out | apply below_alloc | apply pw_below_drewN | apply below_drew1 | refine below_set ?_ GE101.out) | exact HB.out)) hb); clear BK101; clear HB; have BK101 := n0_; have HB := n1_; clear n0_ n1_; (try clear hb); (try clear hb2); (try clear hk); (try clear hi); obtain ⟨i038, hi038, _, hsz38, _⟩ := info_parts info5; obtain ⟨A38, hcut38, hA38, hC38⟩ := print_drop_of (P := Tryd.prog) (Value.int .u8) 0 35 5 .i64 Tryd.underlying35 hi038 hsz38 A1 c1 cm1 t107 (of_decide_eq_true (by first | (with_reducible assumption) | assumption)) (of_decide_eq_true (by first | (with_reducible assumption) | assumption)) HC105.out; rw [← HCM2.out] at hcut38 hA38 hC38; have HR109 := Aside0.mk (Kd.C_of_reads (h1 := fun _ => rfl) (hA38 _ (Kd.reads_of_C HR105.out))); have HC109 := Aside0.mk hC38; clear hA38 hC38 hi038 hsz38) | ((with_reducible refine gate_callee (f := 71) rfl ?_); refine goesL_ (some 51) rfl rfl Tryd.func71 (by kernel_rfl) rfl #[.slice A38 cm2.length (c1 - t107.toNat)] rfl (by (try simp only [List.map_toArray, List.map_cons, List.map_nil]); first | done | (rw [show cm2.length = (cm1.length - t107.toNat) from List.length_drop] <;> rfl) | (simp only [hji19]; rfl) | rfl | (simp only [List.length_drop, List.length_take]; rfl)) ?_; (with_reducible refine (slices_Clone_byte_byte.calls _ _ cm2 t110 _ ?side1 ?side2 A26.out).mono ?_); (case side1 => repeat (first | exact (Kd.C_below HR109.out HB.out) | (with_reducible refine Kd.C_alloc ?_ _) | (with_reducible refine Kd.C_drewN ?_ _) | (with_reducible refine Kd.C_drew ?_))); (case side2 => exact HC109.out); rintro e w39 ⟨v111, rfl, ho0, hb⟩; refine ⟨_, rfl, ?_⟩; have n0_ := Aside0.mk (Kd.R_lower ho0 (below_size (by repeat (first | (with_reducible first | exact HB.out | apply below_alloc | apply pw_below_drewN | apply below_drew1 | refine below_set ?_ GE101.out) | exact HB.out)))); have n1_ := Aside0.mk (blk_below (g := gb101) (o := .cells #[.bool a0_0, .bool a0_1, .bool a0_2, .bool a0_3, .int .u32 a0_4, .int .u32 a0_5, .int .i64 a0_6] 26 (0, 0)) (by (with_reducible repeat (first | refine blk_drewN ?_ _ | refine blk_drew ?_ | refine blk_alloc ?_ _)); exact BK101.out) hb); have n2_ := Aside0.mk (below_step (by repeat (first | (with_reducible first | exact HB.out | apply below_alloc | apply pw_below_drewN | apply below_drew1 | refine below_set ?_ GE101.out) | exact HB.out)) hb); clear BK101; clear HB; have HO112 := n0_; have BK101 := n1_; have HB := n2_; clear n0_ n1_ n2_; (try clear hb); (try clear hb2); (try clear hk); (try clear hi); (try clear ho0); obtain ⟨Ao40, co40, eo40⟩ := Kd.R_slice HO112.out; subst eo40; have hcz41_0 : w39.cell? ⟨gb101, 0, none⟩ = some (.bool a0_0) := (blk_cell BK101.out 0).trans rfl; have hcz41_1 : w39.cell? ⟨gb101, 1, none⟩ = some (.bool a0_1) := (blk_cell BK101.out 1).trans rfl; have hcz41_2 : w39.cell? ⟨gb101, 2, none⟩ = some (.bool a0_2) := (blk_cell BK101.out 2).trans rfl; have hcz41_3 : w39.cell? ⟨gb101, 3, none⟩ = some (.bool a0_3) := (blk_cell BK101.out 3).trans rfl; have hcz41_4 : w39.cell? ⟨gb101, 4, none⟩ = some (.int .u32 a0_4) := (blk_cell BK101.out 4).trans rfl; have hcz41_5 : w39.cell? ⟨gb101, 5, none⟩ = some (.int .u32 a0_5) := (blk_cell BK101.out 5).trans rfl; have hcz41_6 : w39.cell? ⟨gb101, 6, none⟩ = some (.int .i64 a0_6) := (blk_cell BK101.out 6).trans rfl; have hfz41_0 := blk_frozen BK101.out 0; have hfz41_1 := blk_frozen BK101.out 1; have hfz41_2 := blk_frozen BK101.out 2; have hfz41_3 := blk_frozen BK101.out 3; have hfz41_4 := blk_frozen BK101.out 4; have hfz41_5 := blk_frozen BK101.out 5; have hfz41_6 := blk_frozen BK101.out 6))
                    go_ret3
                    exact ⟨_, by first | rfl | (simp [errW_none, errW_some] <;> rfl) | (simp only [← hji19]; first | rfl | (simp [errW_none, errW_some] <;> rfl)) | (simp [*, errW_none, errW_some] <;> rfl), by first | exact Kd.R_nil _ _ _ _ _ | exact Kd.N_nil _ _ _ _ _ | exact Kd.V_nil _ _ _ _ _ | exact Kd.Q_nil _ _ _ _ _ | exact Kd.S_nil _ _ _ _ _, by repeat (first | (with_reducible first | exact HB.out | apply below_alloc | apply pw_below_drewN | apply below_drew1 | refine below_set ?_ GE101.out) | exact HB.out)⟩
                  · rw [if_neg c27] at H
                    have c27b0 : decide (a0_6 < (t110.length : Int)) = false := decide_eq_false c27
                    clear c27
                    simp only [Option.some.injEq, Prod.mk.injEq] at H
                    obtain ⟨rfl, rfl, rfl⟩ := H
                    go_enter Tryd.func49, Tryd.ntmps49
                    go_wp2_with (first | ((with_reducible refine gate_dst (N := 2) rfl ?_); refine box_event ?hg (N := 2) ?hd (cs := #[.bool a0_0, .bool a0_1, .bool a0_2, .bool a0_3, .int .u32 a0_4, .int .u32 a0_5, .int .i64 a0_6]) (t := 26) ?hr ?_; (case hd => rfl); (case hg => rfl); (case hr => first | (go_simp; done) | (go_simp; rfl)); intro gb101 hg w42 hbox hb; have n0_ := Aside0.mk (below_step (by repeat (first | (with_reducible first | exact HB.out | apply below_alloc | apply pw_below_drewN | apply below_drew1) | exact HB.out)) hb); have n1_ := Aside0.mk (hbox); have n2_ := Aside0.mk ((by rw [hg]; exact (below_size (by repeat (first | (with_reducible first | exact HB.out | apply below_alloc | apply pw_below_drewN | apply below_drew1) | exact HB.out))) : w.heap.size ≤ gb101)); have n3_ := Aside0.mk ((by rw [hg]; exact (below_size (by repeat (first | (with_reducible first | exact HB.out | apply below_alloc | apply pw_below_drewN | apply below_drew1) | exact HB.out))) : w.heap.size ≤ gb101)); clear HB; have HB := n0_; have BK101 := n1_; have GW101 := n2_; have GE101 := n3_; clear n0_ n1_ n2_ n3_; clear hb hbox hg; have hcz43_0 : w42.cell? ⟨gb101, 0, none⟩ = some (.bool a0_0) := (blk_cell BK101.out 0).trans rfl; have hcz43_1 : w42.cell? ⟨gb101, 1, none⟩ = some (.bool a0_1) := (blk_cell BK101.out 1).trans rfl; have hcz43_2 : w42.cell? ⟨gb101, 2, none⟩ = some (.bool a0_2) := (blk_cell BK101.out 2).trans rfl; have hcz43_3 : w42.cell? ⟨gb101, 3, none⟩ = some (.bool a0_3) := (blk_cell BK101.out 3).trans rfl; have hcz43_4 : w42.cell? ⟨gb101, 4, none⟩ = some (.int .u32 a0_4) := (blk_cell BK101.out 4).trans rfl; have hcz43_5 : w42.cell? ⟨gb101, 5, none⟩ = some (.int .u32 a0_5) := (blk_cell BK101.out 5).trans rfl; have hcz43_6 : w42.cell? ⟨gb101, 6, none⟩ = some (.int .i64 a0_6) := (blk_cell BK101.out 6).trans rfl; have hfz43_0 := blk_frozen BK101.out 0; have hfz43_1 := blk_frozen BK101.out 1; have hfz43_2 := blk_frozen BK101.out 2; have hfz43_3 := blk_frozen BK101.out 3; have hfz43_4 := blk_frozen BK101.out 4; have hfz43_5 := blk_frozen BK101.out 5; have hfz43_6 := blk_frozen BK101.out 6) | ((with_reducible refine gate_callee (f := 41) rfl ?_); refine goesL_ (some 14) rfl rfl Tryd.func41 (by kernel_rfl) rfl #[.bool a0_1] rfl (by (try simp only [List.map_toArray, List.map_cons, List.map_nil]); first | done | rfl | (simp only [List.length_drop, List.length_take]; rfl)) ?_; (with_reducible refine (fcs_Size.calls a0_1 t102 _ ?side1 A3.out).mono ?_); (case side1 => repeat (first | exact (GF_below HGF.out HB.out) | (with_reducible refine GF_alloc ?_ _) | (with_reducible refine GF_drewN ?_ _) | (with_reducible refine GF_drew ?_))); rintro e w44 ⟨rfl, hb⟩; refine ⟨_, rfl, ?_⟩; have n0_ := Aside0.mk (blk_below (g := gb101) (o := .cells #[.bool a0_0, .bool a0_1, .bool a0_2, .bool a0_3, .int .u32 a0_4, .int .u32 a0_5, .int .i64 a0_6] 26 (0, 0)) (by (with_reducible repeat (first | refine blk_drewN ?_ _ | refine blk_drew ?_ | refine blk_alloc ?_ _)); exact BK101.out) hb); have n1_ := Aside0.mk (below_step (by repeat (first | (with_reducible first | exact HB.out | apply below_alloc | apply pw_below_drewN | apply below_drew1 | refine below_set ?_ GE101.out) | exact HB.out)) hb); clear BK101; clear HB; have BK101 := n0_; have HB := n1_; clear n0_ n1_; (try clear hb); (try clear hb2); (try clear hk); (try clear hi); have hcz45_0 : w44.cell? ⟨gb101, 0, none⟩ = some (.bool a0_0) := (blk_cell BK101.out 0).trans rfl; have hcz45_1 : w44.cell? ⟨gb101, 1, none⟩ = some (.bool a0_1) := (blk_cell BK101.out 1).trans rfl; have hcz45_2 : w44.cell? ⟨gb101, 2, none⟩ = some (.bool a0_2) := (blk_cell BK101.out 2).trans rfl; have hcz45_3 : w44.cell? ⟨gb101, 3, none⟩ = some (.bool a0_3) := (blk_cell BK101.out 3).trans rfl; have hcz45_4 : w44.cell? ⟨gb101, 4, none⟩ = some (.int .u32 a0_4) := (blk_cell BK101.out 4).trans rfl; have hcz45_5 : w44.cell? ⟨gb101, 5, none⟩ = some (.int .u32 a0_5) := (blk_cell BK101.out 5).trans rfl; have hcz45_6 : w44.cell? ⟨gb101, 6, none⟩ = some (.int .i64 a0_6) := (blk_cell BK101.out 6).trans rfl; have hfz45_0 := blk_frozen BK101.out 0; have hfz45_1 := blk_frozen BK101.out 1; have hfz45_2 := blk_frozen BK101.out 2; have hfz45_3 := blk_frozen BK101.out 3; have hfz45_4 := blk_frozen BK101.out 4; have hfz45_5 := blk_frozen BK101.out 5; have hfz45_6 := blk_frozen BK101.out 6) | ((with_reducible refine gate_callee (f := 20) rfl ?_); refine goesL_ (some 19) rfl rfl Tryd.func20 (by kernel_rfl) rfl #[.agg #[.bool a0_0, .bool a0_1, .bool a0_2, .bool a0_3, .int .u32 a0_4, .int .u32 a0_5, .int .i64 a0_6]] rfl (by (try simp only [List.map_toArray, List.map_cons, List.map_nil]); first | done | rfl | (simp only [List.length_drop, List.length_take]; rfl)) ?_; (with_reducible refine (config_Most.calls a0_0 a0_1 a0_2 a0_3 a0_4 a0_5 a0_6 t103 _ ?side1 A4.out).mono ?_); (case side1 => repeat (first | exact (GF_below HGF.out HB.out) | (with_reducible refine GF_alloc ?_ _) | (with_reducible refine GF_drewN ?_ _) | (with_reducible refine GF_drew ?_))); rintro e w46 ⟨rfl, hb⟩; refine ⟨_, rfl, ?_⟩; have n0_ := Aside0.mk (blk_below (g := gb101) (o := .cells #[.bool a0_0, .bool a0_1, .bool a0_2, .bool a0_3, .int .u32 a0_4, .int .u32 a0_5, .int .i64 a0_6] 26 (0, 0)) (by (with_reducible repeat (first | refine blk_drewN ?_ _ | refine blk_drew ?_ | refine blk_alloc ?_ _)); exact BK101.out) hb); have n1_ := Aside0.mk (below_step (by repeat (first | (with_reducible first | exact HB.out | apply below_alloc | apply pw_below_drewN | apply below_drew1 | refine below_set ?_ GE101.out) | exact HB.out)) hb); clear BK101; clear HB; have BK101 := n0_; have HB := n1_; clear n0_ n1_; (try clear hb); (try clear hb2); (try clear hk); (try clear hi); have hcz47_0 : w46.cell? ⟨gb101, 0, none⟩ = some (.bool a0_0) := (blk_cell BK101.out 0).trans rfl; have hcz47_1 : w46.cell? ⟨gb101, 1, none⟩ = some (.bool a0_1) := (blk_cell BK101.out 1).trans rfl; have hcz47_2 : w46.cell? ⟨gb101, 2, none⟩ = some (.bool a0_2) := (blk_cell BK101.out 2).trans rfl; have hcz47_3 : w46.cell? ⟨gb101, 3, none⟩ = some (.bool a0_3) := (blk_cell BK101.out 3).trans rfl; have hcz47_4 : w46.cell? ⟨gb101, 4, none⟩ = some (.int .u32 a0_4) := (blk_cell BK101.out 4).trans rfl; have hcz47_5 : w46.cell? ⟨gb101, 5, none⟩ = some (.int .u32 a0_5) := (blk_cell BK101.out 5).trans rfl; have hcz47_6 : w46.cell? ⟨gb101, 6, none⟩ = some (.int .i64 a0_6) := (blk_cell BK101.out 6).trans rfl; have hfz47_0 := blk_frozen BK101.out 0; have hfz47_1 := blk_frozen BK101.out 1; have hfz47_2 := blk_frozen BK101.out 2; have hfz47_3 := blk_frozen BK101.out 3; have hfz47_4 := blk_frozen BK101.out 4; have hfz47_5 := blk_frozen BK101.out 5; have hfz47_6 := blk_frozen BK101.out 6) | ((with_reducible refine gate_callee (f := 42) rfl ?_); refine goesL_ (some 30) rfl rfl Tryd.func42 (by kernel_rfl) rfl #[.bool a0_1, .slice A1 l1.length c1] rfl (by (try simp only [List.map_toArray, List.map_cons, List.map_nil]); first | done | rfl | (simp only [List.length_drop, List.length_take]; rfl)) ?_; (with_reducible refine (fcs_Good.calls a0_1 _ _ l1 true _ ?side1 ?side2 ?side3 A17.out).mono ?_); (case side1 => repeat (first | exact (Kd.C_below HR1.out HB.out) | (with_reducible refine Kd.C_alloc ?_ _) | (with_reducible refine Kd.C_drewN ?_ _) | (with_reducible refine Kd.C_drew ?_))); (case side2 => exact HC1.out); (case side3 => repeat (first | exact (GF_below HGF.out HB.out) | (with_reducible refine GF_alloc ?_ _) | (with_reducible refine GF_drewN ?_ _) | (with_reducible refine GF_drew ?_))); rintro e w48 ⟨rfl, hb⟩; refine ⟨_, rfl, ?_⟩; have n0_ := Aside0.mk (blk_below (g := gb101) (o := .cells #[.bool a0_0, .bool a0_1, .bool a0_2, .bool a0_3, .int .u32 a0_4, .int .u32 a0_5, .int .i64 a0_6] 26 (0, 0)) (by (with_reducible repeat (first | refine blk_drewN ?_ _ | refine blk_drew ?_ | refine blk_alloc ?_ _)); exact BK101.out) hb); have n1_ := Aside0.mk (below_step (by repeat (first | (with_reducible first | exact HB.out | apply below_alloc | apply pw_below_drewN | apply below_drew1 | refine below_set ?_ GE101.out) | exact HB.out)) hb); clear BK101; clear HB; have BK101 := n0_; have HB := n1_; clear n0_ n1_; (try clear hb); (try clear hb2); (try clear hk); (try clear hi); obtain ⟨i049, hi049, _, hsz49, _⟩ := info_parts info5; obtain ⟨hcut49, hA49, hC49⟩ := print_take_of (P := Tryd.prog) (Value.int .u8) 0 35 5 .i64 Tryd.underlying35 hi049 hsz49 A1 c1 l1 (ji19) (of_decide_eq_true (by first | (with_reducible assumption) | assumption)) (of_decide_eq_true (by first | (with_reducible assumption) | assumption)) HC1.out; rw [← HCM1.out] at hcut49 hA49 hC49; have HR105 := Aside0.mk (Kd.C_of_reads (h1 := fun _ => rfl) (hA49 _ (Kd.reads_of_C HR1.out))); have HC105 := Aside0.mk hC49; clear hA49 hC49 hi049 hsz49; have hcz50_0 : w48.cell? ⟨gb101, 0, none⟩ = some (.bool a0_0) := (blk_cell BK101.out 0).trans rfl; have hcz50_1 : w48.cell? ⟨gb101, 1, none⟩ = some (.bool a0_1) := (blk_cell BK101.out 1).trans rfl; have hcz50_2 : w48.cell? ⟨gb101, 2, none⟩ = some (.bool a0_2) := (blk_cell BK101.out 2).trans rfl; have hcz50_3 : w48.cell? ⟨gb101, 3, none⟩ = some (.bool a0_3) := (blk_cell BK101.out 3).trans rfl; have hcz50_4 : w48.cell? ⟨gb101, 4, none⟩ = some (.int .u32 a0_4) := (blk_cell BK101.out 4).trans rfl; have hcz50_5 : w48.cell? ⟨gb101, 5, none⟩ = some (.int .u32 a0_5) := (blk_cell BK101.out 5).trans rfl; have hcz50_6 : w48.cell? ⟨gb101, 6, none⟩ = some (.int .i64 a0_6) := (blk_cell BK101.out 6).trans rfl; have hfz50_0 := blk_frozen BK101.out 0; have hfz50_1 := blk_frozen BK101.out 1; have hfz50_2 := blk_frozen BK101.out 2; have hfz50_3 := blk_frozen BK101.out 3; have hfz50_4 := blk_frozen BK101.out 4; have hfz50_5 := blk_frozen BK101.out 5; have hfz50_6 := blk_frozen BK101.out 6) | ((with_reducible refine gate_callee (f := 29) rfl ?_); refine goesL_ (some 41) rfl rfl Tryd.func29 (by kernel_rfl) rfl #[.agg #[.bool a0_0, .bool a0_1, .bool a0_2, .bool a0_3, .int .u32 a0_4, .int .u32 a0_5, .int .i64 a0_6], .slice A1 cm1.length c1] rfl (by (try simp only [List.map_toArray, List.map_cons, List.map_nil]); first | done | (rw [show cm1.length = (ji19).toNat from (by rw [List.length_take]; have h_ : ((ji19) : Int) ≤ (l1.length : Int) := of_decide_eq_true (by first | (with_reducible assumption) | assumption); omega)] <;> rfl) | (simp only [hji19]; rfl) | rfl | (simp only [List.length_drop, List.length_take]; rfl)) ?_; (with_reducible refine (head_Get.calls k a0_0 a0_1 a0_2 a0_3 a0_4 a0_5 a0_6 _ _ cm1 t106 t107 t108 _ ?side1 ?side2 ?side3 A22.out).mono ?_); (case side1 => repeat (first | exact (Kd.C_below HR105.out HB.out) | (with_reducible refine Kd.C_alloc ?_ _) | (with_reducible refine Kd.C_drewN ?_ _) | (with_reducible refine Kd.C_drew ?_))); (case side2 => exact HC105.out); (case side3 => repeat (first | exact (GH_below HGH.out HB.out) | (with_reducible refine GH_alloc ?_ _) | (with_reducible refine GH_drewN ?_ _) | (with_reducible refine GH_drew ?_))); rintro e w51 ⟨rfl, hb⟩; refine ⟨_, rfl, ?_⟩; have n0_ := Aside0.mk (blk_below (g := gb101) (o := .cells #[.bool a0_0, .bool a0_1, .bool a0_2, .bool a0_3, .int .u32 a0_4, .int .u32 a0_5, .int .i64 a0_6] 26 (0, 0)) (by (with_reducible repeat (first | refine blk_drewN ?_ _ | refine blk_drew ?_ | refine blk_alloc ?_ _)); exact BK101.out) hb); have n1_ := Aside0.mk (below_step (by repeat (first | (with_reducible first | exact HB.out | apply below_alloc | apply pw_below_drewN | apply below_drew1 | refine below_set ?_ GE101.out) | exact HB.out)) hb); clear BK101; clear HB; have BK101 := n0_; have HB := n1_; clear n0_ n1_; (try clear hb); (try clear hb2); (try clear hk); (try clear hi); obtain ⟨i052, hi052, _, hsz52, _⟩ := info_parts info5; obtain ⟨A52, hcut52, hA52, hC52⟩ := print_drop_of (P := Tryd.prog) (Value.int .u8) 0 35 5 .i64 Tryd.underlying35 hi052 hsz52 A1 c1 cm1 t107 (of_decide_eq_true (by first | (with_reducible assumption) | assumption)) (of_decide_eq_true (by first | (with_reducible assumption) | assumption)) HC105.out; rw [← HCM2.out] at hcut52 hA52 hC52; have HR109 := Aside0.mk (Kd.C_of_reads (h1 := fun _ => rfl) (hA52 _ (Kd.reads_of_C HR105.out))); have HC109 := Aside0.mk hC52; clear hA52 hC52 hi052 hsz52) | ((with_reducible refine gate_callee (f := 71) rfl ?_); refine goesL_ (some 51) rfl rfl Tryd.func71 (by kernel_rfl) rfl #[.slice A52 cm2.length (c1 - t107.toNat)] rfl (by (try simp only [List.map_toArray, List.map_cons, List.map_nil]); first | done | (rw [show cm2.length = (cm1.length - t107.toNat) from List.length_drop] <;> rfl) | (simp only [hji19]; rfl) | rfl | (simp only [List.length_drop, List.length_take]; rfl)) ?_; (with_reducible refine (slices_Clone_byte_byte.calls _ _ cm2 t110 _ ?side1 ?side2 A26.out).mono ?_); (case side1 => repeat (first | exact (Kd.C_below HR109.out HB.out) | (with_reducible refine Kd.C_alloc ?_ _) | (with_reducible refine Kd.C_drewN ?_ _) | (with_reducible refine Kd.C_drew ?_))); (case side2 => exact HC109.out); rintro e w53 ⟨v111, rfl, ho0, hb⟩; refine ⟨_, rfl, ?_⟩; have n0_ := Aside0.mk (Kd.R_lower ho0 (below_size (by repeat (first | (with_reducible first | exact HB.out | apply below_alloc | apply pw_below_drewN | apply below_drew1 | refine below_set ?_ GE101.out) | exact HB.out)))); have n1_ := Aside0.mk (blk_below (g := gb101) (o := .cells #[.bool a0_0, .bool a0_1, .bool a0_2, .bool a0_3, .int .u32 a0_4, .int .u32 a0_5, .int .i64 a0_6] 26 (0, 0)) (by (with_reducible repeat (first | refine blk_drewN ?_ _ | refine blk_drew ?_ | refine blk_alloc ?_ _)); exact BK101.out) hb); have n2_ := Aside0.mk (below_step (by repeat (first | (with_reducible first | exact HB.out | apply below_alloc | apply pw_below_drewN | apply below_drew1 | refine below_set ?_ GE101.out) | exact HB.out)) hb); clear BK101; clear HB; have HO112 := n0_; have BK101 := n1_; have HB := n2_; clear n0_ n1_ n2_; (try clear hb); (try clear hb2); (try clear hk); (try clear hi); (try clear ho0); obtain ⟨Ao54, co54, eo54⟩ := Kd.R_slice HO112.out; subst eo54; have hcz55_0 : w53.cell? ⟨gb101, 0, none⟩ = some (.bool a0_0) := (blk_cell BK101.out 0).trans rfl; have hcz55_1 : w53.cell? ⟨gb101, 1, none⟩ = some (.bool a0_1) := (blk_cell BK101.out 1).trans rfl; have hcz55_2 : w53.cell? ⟨gb101, 2, none⟩ = some (.bool a0_2) := (blk_cell BK101.out 2).trans rfl; have hcz55_3 : w53.cell? ⟨gb101, 3, none⟩ = some (.bool a0_3) := (blk_cell BK101.out 3).trans rfl; have hcz55_4 : w53.cell? ⟨gb101, 4, none⟩ = some (.int .u32 a0_4) := (blk_cell BK101.out 4).trans rfl; have hcz55_5 : w53.cell? ⟨gb101, 5, none⟩ = some (.int .u32 a0_5) := (blk_cell BK101.out 5).trans rfl; have hcz55_6 : w53.cell? ⟨gb101, 6, none⟩ = some (.int .i64 a0_6) := (blk_cell BK101.out 6).trans rfl; have hfz55_0 := blk_frozen BK101.out 0; have hfz55_1 := blk_frozen BK101.out 1; have hfz55_2 := blk_frozen BK101.out 2; have hfz55_3 := blk_frozen BK101.out 3; have hfz55_4 := blk_frozen BK101.out 4; have hfz55_5 := blk_frozen BK101.out 5; have hfz55_6 := blk_frozen BK101.out 6))
                    go_ret3
                    exact ⟨_, by first | rfl | (simp [errW_none, errW_some] <;> rfl) | (simp only [← hji19]; first | rfl | (simp [errW_none, errW_some] <;> rfl)) | (simp [*, errW_none, errW_some] <;> rfl), by (with_reducible repeat (first | apply Kd.R_alloc | apply Kd.R_drewN | apply Kd.R_drew)); exact HO112.out, by repeat (first | (with_reducible first | exact HB.out | apply below_alloc | apply pw_below_drewN | apply below_drew1 | refine below_set ?_ GE101.out) | exact HB.out)⟩
                · rw [if_neg c25] at H
                  exact absurd H (by simp)
              · rw [if_neg c24] at H
                exact absurd H (by simp)
            · rw [if_neg c23] at H
              have c23b0 : (t108 == 0) = false := beq_eq_false_iff_ne.mpr c23
              have c23b1 : (t108 != 0) = true := bne_iff_ne.mpr c23
              simp only [Option.some.injEq, Prod.mk.injEq] at H
              obtain ⟨rfl, rfl, rfl⟩ := H
              go_enter Tryd.func49, Tryd.ntmps49
              go_wp2_with (first | ((with_reducible refine gate_dst (N := 2) rfl ?_); refine box_event ?hg (N := 2) ?hd (cs := #[.bool a0_0, .bool a0_1, .bool a0_2, .bool a0_3, .int .u32 a0_4, .int .u32 a0_5, .int .i64 a0_6]) (t := 26) ?hr ?_; (case hd => rfl); (case hg => rfl); (case hr => first | (go_simp; done) | (go_simp; rfl)); intro gb101 hg w56 hbox hb; have n0_ := Aside0.mk (below_step (by repeat (first | (with_reducible first | exact HB.out | apply below_alloc | apply pw_below_drewN | apply below_drew1) | exact HB.out)) hb); have n1_ := Aside0.mk (hbox); have n2_ := Aside0.mk ((by rw [hg]; exact (below_size (by repeat (first | (with_reducible first | exact HB.out | apply below_alloc | apply pw_below_drewN | apply below_drew1) | exact HB.out))) : w.heap.size ≤ gb101)); have n3_ := Aside0.mk ((by rw [hg]; exact (below_size (by repeat (first | (with_reducible first | exact HB.out | apply below_alloc | apply pw_below_drewN | apply below_drew1) | exact HB.out))) : w.heap.size ≤ gb101)); clear HB; have HB := n0_; have BK101 := n1_; have GW101 := n2_; have GE101 := n3_; clear n0_ n1_ n2_ n3_; clear hb hbox hg; have hcz57_0 : w56.cell? ⟨gb101, 0, none⟩ = some (.bool a0_0) := (blk_cell BK101.out 0).trans rfl; have hcz57_1 : w56.cell? ⟨gb101, 1, none⟩ = some (.bool a0_1) := (blk_cell BK101.out 1).trans rfl; have hcz57_2 : w56.cell? ⟨gb101, 2, none⟩ = some (.bool a0_2) := (blk_cell BK101.out 2).trans rfl; have hcz57_3 : w56.cell? ⟨gb101, 3, none⟩ = some (.bool a0_3) := (blk_cell BK101.out 3).trans rfl; have hcz57_4 : w56.cell? ⟨gb101, 4, none⟩ = some (.int .u32 a0_4) := (blk_cell BK101.out 4).trans rfl; have hcz57_5 : w56.cell? ⟨gb101, 5, none⟩ = some (.int .u32 a0_5) := (blk_cell BK101.out 5).trans rfl; have hcz57_6 : w56.cell? ⟨gb101, 6, none⟩ = some (.int .i64 a0_6) := (blk_cell BK101.out 6).trans rfl; have hfz57_0 := blk_frozen BK101.out 0; have hfz57_1 := blk_frozen BK101.out 1; have hfz57_2 := blk_frozen BK101.out 2; have hfz57_3 := blk_frozen BK101.out 3; have hfz57_4 := blk_frozen BK101.out 4; have hfz57_5 := blk_frozen BK101.out 5; have hfz57_6 := blk_frozen BK101.out 6) | ((with_reducible refine gate_callee (f := 41) rfl ?_); refine goesL_ (some 14) rfl rfl Tryd.func41 (by kernel_rfl) rfl #[.bool a0_1] rfl (by (try simp only [List.map_toArray, List.map_cons, List.map_nil]); first | done | rfl | (simp only [List.length_drop, List.length_take]; rfl)) ?_; (with_reducible refine (fcs_Size.calls a0_1 t102 _ ?side1 A3.out).mono ?_); (case side1 => repeat (first | exact (GF_below HGF.out HB.out) | (with_reducible refine GF_alloc ?_ _) | (with_reducible refine GF_drewN ?_ _) | (with_reducible refine GF_drew ?_))); rintro e w58 ⟨rfl, hb⟩; refine ⟨_, rfl, ?_⟩; have n0_ := Aside0.mk (blk_below (g := gb101) (o := .cells #[.bool a0_0, .bool a0_1, .bool a0_2, .bool a0_3, .int .u32 a0_4, .int .u32 a0_5, .int .i64 a0_6] 26 (0, 0)) (by (with_reducible repeat (first | refine blk_drewN ?_ _ | refine blk_drew ?_ | refine blk_alloc ?_ _)); exact BK101.out) hb); have n1_ := Aside0.mk (below_step (by repeat (first | (with_reducible first | exact HB.out | apply below_alloc | apply pw_below_drewN | apply below_drew1 | refine below_set ?_ GE101.out) | exact HB.out)) hb); clear BK101; clear HB; have BK101 := n0_; have HB := n1_; clear n0_ n1_; (try clear hb); (try clear hb2); (try clear hk); (try clear hi); have hcz59_0 : w58.cell? ⟨gb101, 0, none⟩ = some (.bool a0_0) := (blk_cell BK101.out 0).trans rfl; have hcz59_1 : w58.cell? ⟨gb101, 1, none⟩ = some (.bool a0_1) := (blk_cell BK101.out 1).trans rfl; have hcz59_2 : w58.cell? ⟨gb101, 2, none⟩ = some (.bool a0_2) := (blk_cell BK101.out 2).trans rfl; have hcz59_3 : w58.cell? ⟨gb101, 3, none⟩ = some (.bool a0_3) := (blk_cell BK101.out 3).trans rfl; have hcz59_4 : w58.cell? ⟨gb101, 4, none⟩ = some (.int .u32 a0_4) := (blk_cell BK101.out 4).trans rfl; have hcz59_5 : w58.cell? ⟨gb101, 5, none⟩ = some (.int .u32 a0_5) := (blk_cell BK101.out 5).trans rfl; have hcz59_6 : w58.cell? ⟨gb101, 6, none⟩ = some (.int .i64 a0_6) := (blk_cell BK101.out 6).trans rfl; have hfz59_0 := blk_frozen BK101.out 0; have hfz59_1 := blk_frozen BK101.out 1; have hfz59_2 := blk_frozen BK101.out 2; have hfz59_3 := blk_frozen BK101.out 3; have hfz59_4 := blk_frozen BK101.out 4; have hfz59_5 := blk_frozen BK101.out 5; have hfz59_6 := blk_frozen BK101.out 6) | ((with_reducible refine gate_callee (f := 20) rfl ?_); refine goesL_ (some 19) rfl rfl Tryd.func20 (by kernel_rfl) rfl #[.agg #[.bool a0_0, .bool a0_1, .bool a0_2, .bool a0_3, .int .u32 a0_4, .int .u32 a0_5, .int .i64 a0_6]] rfl (by (try simp only [List.map_toArray, List.map_cons, List.map_nil]); first | done | rfl | (simp only [List.length_drop, List.length_take]; rfl)) ?_; (with_reducible refine (config_Most.calls a0_0 a0_1 a0_2 a0_3 a0_4 a0_5 a0_6 t103 _ ?side1 A4.out).mono ?_); (case side1 => repeat (first | exact (GF_below HGF.out HB.out) | (with_reducible refine GF_alloc ?_ _) | (with_reducible refine GF_drewN ?_ _) | (with_reducible refine GF_drew ?_))); rintro e w60 ⟨rfl, hb⟩; refine ⟨_, rfl, ?_⟩; have n0_ := Aside0.mk (blk_below (g := gb101) (o := .cells #[.bool a0_0, .bool a0_1, .bool a0_2, .bool a0_3, .int .u32 a0_4, .int .u32 a0_5, .int .i64 a0_6] 26 (0, 0)) (by (with_reducible repeat (first | refine blk_drewN ?_ _ | refine blk_drew ?_ | refine blk_alloc ?_ _)); exact BK101.out) hb); have n1_ := Aside0.mk (below_step (by repeat (first | (with_reducible first | exact HB.out | apply below_alloc | apply pw_below_drewN | apply below_drew1 | refine below_set ?_ GE101.out) | exact HB.out)) hb); clear BK101; clear HB; have BK101 := n0_; have HB := n1_; clear n0_ n1_; (try clear hb); (try clear hb2); (try clear hk); (try clear hi); have hcz61_0 : w60.cell? ⟨gb101, 0, none⟩ = some (.bool a0_0) := (blk_cell BK101.out 0).trans rfl; have hcz61_1 : w60.cell? ⟨gb101, 1, none⟩ = some (.bool a0_1) := (blk_cell BK101.out 1).trans rfl; have hcz61_2 : w60.cell? ⟨gb101, 2, none⟩ = some (.bool a0_2) := (blk_cell BK101.out 2).trans rfl; have hcz61_3 : w60.cell? ⟨gb101, 3, none⟩ = some (.bool a0_3) := (blk_cell BK101.out 3).trans rfl; have hcz61_4 : w60.cell? ⟨gb101, 4, none⟩ = some (.int .u32 a0_4) := (blk_cell BK101.out 4).trans rfl; have hcz61_5 : w60.cell? ⟨gb101, 5, none⟩ = some (.int .u32 a0_5) := (blk_cell BK101.out 5).trans rfl; have hcz61_6 : w60.cell? ⟨gb101, 6, none⟩ = some (.int .i64 a0_6) := (blk_cell BK101.out 6).trans rfl; have hfz61_0 := blk_frozen BK101.out 0; have hfz61_1 := blk_frozen BK101.out 1; have hfz61_2 := blk_frozen BK101.out 2; have hfz61_3 := blk_frozen BK101.out 3; have hfz61_4 := blk_frozen BK101.out 4; have hfz61_5 := blk_frozen BK101.out 5; have hfz61_6 := blk_frozen BK101.out 6) | ((with_reducible refine gate_callee (f := 42) rfl ?_); refine goesL_ (some 30) rfl rfl Tryd.func42 (by kernel_rfl) rfl #[.bool a0_1, .slice A1 l1.length c1] rfl (by (try simp only [List.map_toArray, List.map_cons, List.map_nil]); first | done | rfl | (simp only [List.length_drop, List.length_take]; rfl)) ?_; (with_reducible refine (fcs_Good.calls a0_1 _ _ l1 true _ ?side1 ?side2 ?side3 A17.out).mono ?_); (case side1 => repeat (first | exact (Kd.C_below HR1.out HB.out) | (with_reducible refine Kd.C_alloc ?_ _) | (with_reducible refine Kd.C_drewN ?_ _) | (with_reducible refine Kd.C_drew ?_))); (case side2 => exact HC1.out); (case side3 => repeat (first | exact (GF_below HGF.out HB.out) | (with_reducible refine GF_alloc ?_ _) | (with_reducible refine GF_drewN ?_ _) | (with_reducible refine GF_drew ?_))); rintro e w62 ⟨rfl, hb⟩; refine ⟨_, rfl, ?_⟩; have n0_ := Aside0.mk (blk_below (g := gb101) (o := .cells #[.bool a0_0, .bool a0_1, .bool a0_2, .bool a0_3, .int .u32 a0_4, .int .u32 a0_5, .int .i64 a0_6] 26 (0, 0)) (by (with_reducible repeat (first | refine blk_drewN ?_ _ | refine blk_drew ?_ | refine blk_alloc ?_ _)); exact BK101.out) hb); have n1_ := Aside0.mk (below_step (by repeat (first | (with_reducible first | exact HB.out | apply below_alloc | apply pw_below_drewN | apply below_drew1 | refine below_set ?_ GE101.out) | exact HB.out)) hb); clear BK101; clear HB; have BK101 := n0_; have HB := n1_; clear n0_ n1_; (try clear hb); (try clear hb2); (try clear hk); (try clear hi); obtain ⟨i063, hi063, _, hsz63, _⟩ := info_parts info5; obtain ⟨hcut63, hA63, hC63⟩ := print_take_of (P := Tryd.prog) (Value.int .u8) 0 35 5 .i64 Tryd.underlying35 hi063 hsz63 A1 c1 l1 (ji19) (of_decide_eq_true (by first | (with_reducible assumption) | assumption)) (of_decide_eq_true (by first | (with_reducible assumption) | assumption)) HC1.out; have HR105 := Aside0.mk (Kd.C_of_reads (h1 := fun _ => rfl) (hA63 _ (Kd.reads_of_C HR1.out))); have HC105 := Aside0.mk hC63; clear hA63 hC63 hi063 hsz63; have hcz64_0 : w62.cell? ⟨gb101, 0, none⟩ = some (.bool a0_0) := (blk_cell BK101.out 0).trans rfl; have hcz64_1 : w62.cell? ⟨gb101, 1, none⟩ = some (.bool a0_1) := (blk_cell BK101.out 1).trans rfl; have hcz64_2 : w62.cell? ⟨gb101, 2, none⟩ = some (.bool a0_2) := (blk_cell BK101.out 2).trans rfl; have hcz64_3 : w62.cell? ⟨gb101, 3, none⟩ = some (.bool a0_3) := (blk_cell BK101.out 3).trans rfl; have hcz64_4 : w62.cell? ⟨gb101, 4, none⟩ = some (.int .u32 a0_4) := (blk_cell BK101.out 4).trans rfl; have hcz64_5 : w62.cell? ⟨gb101, 5, none⟩ = some (.int .u32 a0_5) := (blk_cell BK101.out 5).trans rfl; have hcz64_6 : w62.cell? ⟨gb101, 6, none⟩ = some (.int .i64 a0_6) := (blk_cell BK101.out 6).trans rfl; have hfz64_0 := blk_frozen BK101.out 0; have hfz64_1 := blk_frozen BK101.out 1; have hfz64_2 := blk_frozen BK101.out 2; have hfz64_3 := blk_frozen BK101.out 3; have hfz64_4 := blk_frozen BK101.out 4; have hfz64_5 := blk_frozen BK101.out 5; have hfz64_6 := blk_frozen BK101.out 6) | ((with_reducible refine gate_callee (f := 29) rfl ?_); refine goesL_ (some 41) rfl rfl Tryd.func29 (by kernel_rfl) rfl #[.agg #[.bool a0_0, .bool a0_1, .bool a0_2, .bool a0_3, .int .u32 a0_4, .int .u32 a0_5, .int .i64 a0_6], .slice A1 (l1.take ((ji19) : Int).toNat).length c1] rfl (by (try simp only [List.map_toArray, List.map_cons, List.map_nil]); first | done | (rw [show (l1.take ((ji19) : Int).toNat).length = (ji19).toNat from (by rw [List.length_take]; have h_ : ((ji19) : Int) ≤ (l1.length : Int) := of_decide_eq_true (by first | (with_reducible assumption) | assumption); omega)] <;> rfl) | (simp only [hji19]; rfl) | rfl | (simp only [List.length_drop, List.length_take]; rfl)) ?_; (with_reducible refine (head_Get.calls k a0_0 a0_1 a0_2 a0_3 a0_4 a0_5 a0_6 _ _ (l1.take ((ji19) : Int).toNat) t106 t107 t108 _ ?side1 ?side2 ?side3 A22.out).mono ?_); (case side1 => repeat (first | exact (Kd.C_below HR105.out HB.out) | (with_reducible refine Kd.C_alloc ?_ _) | (with_reducible refine Kd.C_drewN ?_ _) | (with_reducible refine Kd.C_drew ?_))); (case side2 => exact HC105.out); (case side3 => repeat (first | exact (GH_below HGH.out HB.out) | (with_reducible refine GH_alloc ?_ _) | (with_reducible refine GH_drewN ?_ _) | (with_reducible refine GH_drew ?_))); rintro e w65 ⟨rfl, hb⟩; refine ⟨_, rfl, ?_⟩; have n0_ := Aside0.mk (blk_below (g := gb101) (o := .cells #[.bool a0_0, .bool a0_1, .bool a0_2, .bool a0_3, .int .u32 a0_4, .int .u32 a0_5, .int .i64 a0_6] 26 (0, 0)) (by (with_reducible repeat (first | refine blk_drewN ?_ _ | refine blk_drew ?_ | refine blk_alloc ?_ _)); exact BK101.out) hb); have n1_ := Aside0.mk (below_step (by repeat (first | (with_reducible first | exact HB.out | apply below_alloc | apply pw_below_drewN | apply below_drew1 | refine below_set ?_ GE101.out) | exact HB.out)) hb); clear BK101; clear HB; have BK101 := n0_; have HB := n1_; clear n0_ n1_; (try clear hb); (try clear hb2); (try clear hk); (try clear hi)))
              go_ret3
              exact ⟨_, by first | rfl | (simp [errW_none, errW_some] <;> rfl) | (simp only [← hji19]; first | rfl | (simp [errW_none, errW_some] <;> rfl)) | (simp [*, errW_none, errW_some] <;> rfl), by first | exact Kd.R_nil _ _ _ _ _ | exact Kd.N_nil _ _ _ _ _ | exact Kd.V_nil _ _ _ _ _ | exact Kd.Q_nil _ _ _ _ _ | exact Kd.S_nil _ _ _ _ _, by repeat (first | (with_reducible first | exact HB.out | apply below_alloc | apply pw_below_drewN | apply below_drew1 | refine below_set ?_ GE101.out) | exact HB.out)⟩
          · rw [if_neg c21] at H
            exact absurd H (by simp)
        · rw [if_neg c20] at H
          exact absurd H (by simp)
      · replace c18 := Bool.eq_false_iff.mpr c18
        subst c18
        have H1 : (some (0, ([] : List Int), 6)) = some (r1, r2, r3) := by rw [if_neg (show ¬ (false = true) by decide)] at H; exact H
        clear H
        have H := H1
        clear H1
        simp only [Option.some.injEq, Prod.mk.injEq] at H
        obtain ⟨rfl, rfl, rfl⟩ := H
        go_enter Tryd.func49, Tryd.ntmps49
        go_wp2_with (first | ((with_reducible refine gate_dst (N := 2) rfl ?_); refine box_event ?hg (N := 2) ?hd (cs := #[.bool a0_0, .bool a0_1, .bool a0_2, .bool a0_3, .int .u32 a0_4, .int .u32 a0_5, .int .i64 a0_6]) (t := 26) ?hr ?_; (case hd => rfl); (case hg => rfl); (case hr => first | (go_simp; done) | (go_simp; rfl)); intro gb101 hg w66 hbox hb; have n0_ := Aside0.mk (below_step (by repeat (first | (with_reducible first | exact HB.out | apply below_alloc | apply pw_below_drewN | apply below_drew1) | exact HB.out)) hb); have n1_ := Aside0.mk (hbox); have n2_ := Aside0.mk ((by rw [hg]; exact (below_size (by repeat (first | (with_reducible first | exact HB.out | apply below_alloc | apply pw_below_drewN | apply below_drew1) | exact HB.out))) : w.heap.size ≤ gb101)); have n3_ := Aside0.mk ((by rw [hg]; exact (below_size (by repeat (first | (with_reducible first | exact HB.out | apply below_alloc | apply pw_below_drewN | apply below_drew1) | exact HB.out))) : w.heap.size ≤ gb101)); clear HB; have HB := n0_; have BK101 := n1_; have GW101 := n2_; have GE101 := n3_; clear n0_ n1_ n2_ n3_; clear hb hbox hg; have hcz67_0 : w66.cell? ⟨gb101, 0, none⟩ = some (.bool a0_0) := (blk_cell BK101.out 0).trans rfl; have hcz67_1 : w66.cell? ⟨gb101, 1, none⟩ = some (.bool a0_1) := (blk_cell BK101.out 1).trans rfl; have hcz67_2 : w66.cell? ⟨gb101, 2, none⟩ = some (.bool a0_2) := (blk_cell BK101.out 2).trans rfl; have hcz67_3 : w66.cell? ⟨gb101, 3, none⟩ = some (.bool a0_3) := (blk_cell BK101.out 3).trans rfl; have hcz67_4 : w66.cell? ⟨gb101, 4, none⟩ = some (.int .u32 a0_4) := (blk_cell BK101.out 4).trans rfl; have hcz67_5 : w66.cell? ⟨gb101, 5, none⟩ = some (.int .u32 a0_5) := (blk_cell BK101.out 5).trans rfl; have hcz67_6 : w66.cell? ⟨gb101, 6, none⟩ = some (.int .i64 a0_6) := (blk_cell BK101.out 6).trans rfl; have hfz67_0 := blk_frozen BK101.out 0; have hfz67_1 := blk_frozen BK101.out 1; have hfz67_2 := blk_frozen BK101.out 2; have hfz67_3 := blk_frozen BK101.out 3; have hfz67_4 := blk_frozen BK101.out 4; have hfz67_5 := blk_frozen BK101.out 5; have hfz67_6 := blk_frozen BK101.out 6) | ((with_reducible refine gate_callee (f := 41) rfl ?_); refine goesL_ (some 14) rfl rfl Tryd.func41 (by kernel_rfl) rfl #[.bool a0_1] rfl (by (try simp only [List.map_toArray, List.map_cons, List.map_nil]); first | done | rfl | (simp only [List.length_drop, List.length_take]; rfl)) ?_; (with_reducible refine (fcs_Size.calls a0_1 t102 _ ?side1 A3.out).mono ?_); (case side1 => repeat (first | exact (GF_below HGF.out HB.out) | (with_reducible refine GF_alloc ?_ _) | (with_reducible refine GF_drewN ?_ _) | (with_reducible refine GF_drew ?_))); rintro e w68 ⟨rfl, hb⟩; refine ⟨_, rfl, ?_⟩; have n0_ := Aside0.mk (blk_below (g := gb101) (o := .cells #[.bool a0_0, .bool a0_1, .bool a0_2, .bool a0_3, .int .u32 a0_4, .int .u32 a0_5, .int .i64 a0_6] 26 (0, 0)) (by (with_reducible repeat (first | refine blk_drewN ?_ _ | refine blk_drew ?_ | refine blk_alloc ?_ _)); exact BK101.out) hb); have n1_ := Aside0.mk (below_step (by repeat (first | (with_reducible first | exact HB.out | apply below_alloc | apply pw_below_drewN | apply below_drew1 | refine below_set ?_ GE101.out) | exact HB.out)) hb); clear BK101; clear HB; have BK101 := n0_; have HB := n1_; clear n0_ n1_; (try clear hb); (try clear hb2); (try clear hk); (try clear hi); have hcz69_0 : w68.cell? ⟨gb101, 0, none⟩ = some (.bool a0_0) := (blk_cell BK101.out 0).trans rfl; have hcz69_1 : w68.cell? ⟨gb101, 1, none⟩ = some (.bool a0_1) := (blk_cell BK101.out 1).trans rfl; have hcz69_2 : w68.cell? ⟨gb101, 2, none⟩ = some (.bool a0_2) := (blk_cell BK101.out 2).trans rfl; have hcz69_3 : w68.cell? ⟨gb101, 3, none⟩ = some (.bool a0_3) := (blk_cell BK101.out 3).trans rfl; have hcz69_4 : w68.cell? ⟨gb101, 4, none⟩ = some (.int .u32 a0_4) := (blk_cell BK101.out 4).trans rfl; have hcz69_5 : w68.cell? ⟨gb101, 5, none⟩ = some (.int .u32 a0_5) := (blk_cell BK101.out 5).trans rfl; have hcz69_6 : w68.cell? ⟨gb101, 6, none⟩ = some (.int .i64 a0_6) := (blk_cell BK101.out 6).trans rfl; have hfz69_0 := blk_frozen BK101.out 0; have hfz69_1 := blk_frozen BK101.out 1; have hfz69_2 := blk_frozen BK101.out 2; have hfz69_3 := blk_frozen BK101.out 3; have hfz69_4 := blk_frozen BK101.out 4; have hfz69_5 := blk_frozen BK101.out 5; have hfz69_6 := blk_frozen BK101.out 6) | ((with_reducible refine gate_callee (f := 20) rfl ?_); refine goesL_ (some 19) rfl rfl Tryd.func20 (by kernel_rfl) rfl #[.agg #[.bool a0_0, .bool a0_1, .bool a0_2, .bool a0_3, .int .u32 a0_4, .int .u32 a0_5, .int .i64 a0_6]] rfl (by (try simp only [List.map_toArray, List.map_cons, List.map_nil]); first | done | rfl | (simp only [List.length_drop, List.length_take]; rfl)) ?_; (with_reducible refine (config_Most.calls a0_0 a0_1 a0_2 a0_3 a0_4 a0_5 a0_6 t103 _ ?side1 A4.out).mono ?_); (case side1 => repeat (first | exact (GF_below HGF.out HB.out) | (with_reducible refine GF_alloc ?_ _) | (with_reducible refine GF_drewN ?_ _) | (with_reducible refine GF_drew ?_))); rintro e w70 ⟨rfl, hb⟩; refine ⟨_, rfl, ?_⟩; have n0_ := Aside0.mk (blk_below (g := gb101) (o := .cells #[.bool a0_0, .bool a0_1, .bool a0_2, .bool a0_3, .int .u32 a0_4, .int .u32 a0_5, .int .i64 a0_6] 26 (0, 0)) (by (with_reducible repeat (first | refine blk_drewN ?_ _ | refine blk_drew ?_ | refine blk_alloc ?_ _)); exact BK101.out) hb); have n1_ := Aside0.mk (below_step (by repeat (first | (with_reducible first | exact HB.out | apply below_alloc | apply pw_below_drewN | apply below_drew1 | refine below_set ?_ GE101.out) | exact HB.out)) hb); clear BK101; clear HB; have BK101 := n0_; have HB := n1_; clear n0_ n1_; (try clear hb); (try clear hb2); (try clear hk); (try clear hi); have hcz71_0 : w70.cell? ⟨gb101, 0, none⟩ = some (.bool a0_0) := (blk_cell BK101.out 0).trans rfl; have hcz71_1 : w70.cell? ⟨gb101, 1, none⟩ = some (.bool a0_1) := (blk_cell BK101.out 1).trans rfl; have hcz71_2 : w70.cell? ⟨gb101, 2, none⟩ = some (.bool a0_2) := (blk_cell BK101.out 2).trans rfl; have hcz71_3 : w70.cell? ⟨gb101, 3, none⟩ = some (.bool a0_3) := (blk_cell BK101.out 3).trans rfl; have hcz71_4 : w70.cell? ⟨gb101, 4, none⟩ = some (.int .u32 a0_4) := (blk_cell BK101.out 4).trans rfl; have hcz71_5 : w70.cell? ⟨gb101, 5, none⟩ = some (.int .u32 a0_5) := (blk_cell BK101.out 5).trans rfl; have hcz71_6 : w70.cell? ⟨gb101, 6, none⟩ = some (.int .i64 a0_6) := (blk_cell BK101.out 6).trans rfl; have hfz71_0 := blk_frozen BK101.out 0; have hfz71_1 := blk_frozen BK101.out 1; have hfz71_2 := blk_frozen BK101.out 2; have hfz71_3 := blk_frozen BK101.out 3; have hfz71_4 := blk_frozen BK101.out 4; have hfz71_5 := blk_frozen BK101.out 5; have hfz71_6 := blk_frozen BK101.out 6) | ((with_reducible refine gate_callee (f := 42) rfl ?_); refine goesL_ (some 30) rfl rfl Tryd.func42 (by kernel_rfl) rfl #[.bool a0_1, .slice A1 l1.length c1] rfl (by (try simp only [List.map_toArray, List.map_cons, List.map_nil]); first | done | rfl | (simp only [List.length_drop, List.length_take]; rfl)) ?_; (with_reducible refine (fcs_Good.calls a0_1 _ _ l1 false _ ?side1 ?side2 ?side3 A17.out).mono ?_); (case side1 => repeat (first | exact (Kd.C_below HR1.out HB.out) | (with_reducible refine Kd.C_alloc ?_ _) | (with_reducible refine Kd.C_drewN ?_ _) | (with_reducible refine Kd.C_drew ?_))); (case side2 => exact HC1.out); (case side3 => repeat (first | exact (GF_below HGF.out HB.out) | (with_reducible refine GF_alloc ?_ _) | (with_reducible refine GF_drewN ?_ _) | (with_reducible refine GF_drew ?_))); rintro e w72 ⟨rfl, hb⟩; refine ⟨_, rfl, ?_⟩; have n0_ := Aside0.mk (blk_below (g := gb101) (o := .cells #[.bool a0_0, .bool a0_1, .bool a0_2, .bool a0_3, .int .u32 a0_4, .int .u32 a0_5, .int .i64 a0_6] 26 (0, 0)) (by (with_reducible repeat (first | refine blk_drewN ?_ _ | refine blk_drew ?_ | refine blk_alloc ?_ _)); exact BK101.out) hb); have n1_ := Aside0.mk (below_step (by repeat (first | (with_reducible first | exact HB.out | apply below_alloc | apply pw_below_drewN | apply below_drew1 | refine below_set ?_ GE101.out) | exact HB.out)) hb); clear BK101; clear HB; have BK101 := n0_; have HB := n1_; clear n0_ n1_; (try clear hb); (try clear hb2); (try clear hk); (try clear hi)))
        go_ret3
        exact ⟨_, by first | rfl | (simp [errW_none, errW_some] <;> rfl) | (simp [*, errW_none, errW_some] <;> rfl), by first | exact Kd.R_nil _ _ _ _ _ | exact Kd.N_nil _ _ _ _ _ | exact Kd.V_nil _ _ _ _ _ | exact Kd.Q_nil _ _ _ _ _ | exact Kd.S_nil _ _ _ _ _, by repeat (first | (with_reducible first | exact HB.out | apply below_alloc | apply pw_below_drewN | apply below_drew1 | refine below_set ?_ GE101.out) | exact HB.out)⟩
end Go.Proofs.YtggpejjfgphihaaDoor.E
end

section
namespace Go.Proofs.YtggpejjfgphihaaDoor.Pu
open Go.RowKit Go.Proofs.YtggpejjfgphihaaDoorW.PrintWords Go.Proofs.YtggpejjfgphihaaDoorW.PrintLast Go.Proofs.YtggpejjfgphihaaDoorW.PrintMore
open Go.Proofs.YtggpejjfgphihaaDoor.Given Go.Proofs.YtggpejjfgphihaaDoor.D Go.Proofs.YtggpejjfgphihaaDoor.H Go.Proofs.YtggpejjfgphihaaDoor.E
set_option linter.unusedVariables false
set_option linter.unusedSimpArgs false
theorem bd {α β : Type} {o : Option α} {x : α} (h : o = some x) (f : α → Option β) : o.bind f = f x := by rw [h]; rfl
def frameN (wide acfc pfc : Bool) (p : Nat) (B : List Nat) : List Nat := headN acfc pfc p ++ B ++ trailerN wide (headN acfc pfc p ++ B)
theorem headB_lt (acfc pfc : Bool) (p : Nat) (hp : p < 65536) (B : List Nat) (hB : ∀ x ∈ B, x < 256) : ∀ x ∈ headN acfc pfc p ++ B, x < 256 := by
  intro x hx
  rcases List.mem_append.1 hx with hx | hx
  · exact headN_lt acfc pfc p hp x hx
  · exact hB x hx
theorem frameN_lt (wide acfc pfc : Bool) (p : Nat) (hp : p < 65536) (B : List Nat) (hB : ∀ x ∈ B, x < 256) : ∀ x ∈ frameN wide acfc pfc p B, x < 256 := by
  intro x hx
  rcases List.mem_append.1 hx with hx | hx
  · exact headB_lt acfc pfc p hp B hB x hx
  · exact trailerN_lt wide _ x hx
theorem headN_le (acfc pfc : Bool) (p : Nat) : 1 ≤ (headN acfc pfc p).length ∧ (headN acfc pfc p).length ≤ 4 := by
  unfold headN
  split
  · have := numN_len p pfc; omega
  · have := numN_len p (pfc && decide (p ≠ 49185)); simp only [List.length_cons]; omega
theorem size_le (wide : Bool) : 2 ≤ sizeN wide ∧ sizeN wide ≤ 4 := by cases wide <;> decide
theorem frameN_len (wide acfc pfc : Bool) (p : Nat) (B : List Nat) : (frameN wide acfc pfc p B).length = (headN acfc pfc p).length + B.length + sizeN wide := by
  unfold frameN
  rw [List.length_append, List.length_append, trailerN_length]
theorem concat2 (A B : List Nat) (h : A.length + B.length < 100000) : slices_Concat_byte_byte.f [ofN A, ofN B] = some (ofN (A ++ B)) := by
  unfold slices_Concat_byte_byte.f
  have e : ([ofN A, ofN B] : List (List Int)).flatten = ofN (A ++ B) := by rw [ofN_append]; simp
  rw [e, if_pos ⟨by rw [ofN_length, List.length_append]; exact h, by simp⟩]
theorem f_Build (k : Nat) (a wide acfc pfc : Bool) (x y z : Int) (p : Nat) (hp : p < 65536) (B : List Nat) (hB : ∀ x ∈ B, x < 256) (hl : B.length < 90000) :
    frame_Build.f (k + 5) a wide acfc pfc x y z (p : Int) (ofN B) = if right p = true then (if (B.length : Int) > z then some ([], 3) else some (ofN (frameN wide acfc pfc p B), 0)) else some ([], 7) := by
  have hh := headN_le acfc pfc p
  have ht := size_le wide
  unfold frame_Build.f
  rw [bd (f_Right p hp), ofN_length]
  split
  · split
    · rfl
    · rw [bd (f_head (k + 2) p hp a wide acfc pfc x y z), bd (concat2 _ B (by omega)), bd (f_Trailer k wide _ (headB_lt acfc pfc p hp B hB)), if_pos (by rw [ofN_length, ofN_length, List.length_append, trailerN_length]; omega), ← ofN_append]
      rfl
  · rfl
def parseN (wide acfc pfc : Bool) (m : Nat) (L : List Nat) : Nat × List Nat × Nat :=
  if m + 4 + sizeN wide < L.length then (0, [], 3) else if L.length ≤ sizeN wide then (0, [], 2) else if goodB wide L = false then (0, [], 6) else
    if (getHead acfc pfc (L.take (L.length - sizeN wide))).2.2 ≠ 0 then (0, [], (getHead acfc pfc (L.take (L.length - sizeN wide))).2.2) else
    if m < ((L.take (L.length - sizeN wide)).drop (getHead acfc pfc (L.take (L.length - sizeN wide))).2.1).length then (0, [], 3) else
      ((getHead acfc pfc (L.take (L.length - sizeN wide))).1, (L.take (L.length - sizeN wide)).drop (getHead acfc pfc (L.take (L.length - sizeN wide))).2.1, 0)
def tri2 (t : Nat × List Nat × Nat) : Int × List Int × Int := ((t.1 : Int), ofN t.2.1, (t.2.2 : Int))
theorem f_Most (a wide c d : Bool) (x y : Int) (m : Nat) (hm : m ≤ 65535) : C.config_Most.f a wide c d x y (m : Int) = some ((m + 4 + sizeN wide : Nat) : Int) := by
  cases wide <;> simp [C.config_Most.f, C.fcs_Size.f, fcs_of.f, sizeN, wrap64] <;> omega
theorem getHead_le (acfc pfc : Bool) (l : List Nat) (h : (getHead acfc pfc l).2.2 = 0) : (getHead acfc pfc l).2.1 ≤ l.length := by
  have hg : ∀ (l : List Nat) (s : Bool), (getN l s).2.2 = 0 → (getN l s).2.1 ≤ l.length := by
    intro l s h
    unfold getN at h ⊢
    match l with
    | [] => simp at h
    | [c] =>
      simp only at h ⊢
      split at h
      · simp at h
      · split at h
        · rename_i h1 h2; simp [h1, h2]
        · simp at h
    | c :: d :: l =>
      simp only at h ⊢
      split at h
      · split at h
        · rename_i h1 h2; simp [h1, h2]
        · simp at h
      · split at h
        · rename_i h1 h2; simp [h1, h2]
        · simp at h
  unfold getHead at h ⊢
  by_cases h1 : begins l = false ∧ acfc = false
  · rw [if_pos h1] at h; simp at h
  rw [if_neg h1] at h ⊢
  obtain ⟨t, ht⟩ : ∃ t, t = getN (if begins l = true then l.drop 2 else l) pfc := ⟨_, rfl⟩
  simp only [← ht] at h ⊢
  by_cases h2 : t.2.2 = 0
  · rw [if_pos h2]
    have h3 := hg (if begins l = true then l.drop 2 else l) pfc (by rw [← ht]; exact h2)
    rw [← ht] at h3
    by_cases hb : begins l = true
    · simp only [hb, if_true, List.length_drop] at h3 ⊢
      have hl : 2 ≤ l.length := by
        unfold begins at hb
        split at hb
        · simp
        · simp at hb
      omega
    · simp only [hb, if_false, Bool.false_eq_true] at h3 ⊢
      omega
  · rw [if_neg h2] at h; simp at h
theorem clone_f (B : List Nat) (h : B.length < 100000) : slices_Clone_byte_byte.f (ofN B) = some (ofN B) := by
  unfold slices_Clone_byte_byte.f
  rw [if_pos (by rw [ofN_length]; omega)]
theorem f_Parse (k : Nat) (a wide acfc pfc : Bool) (x y : Int) (m : Nat) (hm : m ≤ 65535) (L : List Nat) (hL : ∀ x ∈ L, x < 256) (hl : L.length < 90000) :
    frame_Parse.f (k + 3) a wide acfc pfc x y (m : Int) (ofN L) = some (tri2 (parseN wide acfc pfc m L)) := by
  have ht := size_le wide
  unfold frame_Parse.f parseN
  rw [bd (f_Size wide), bd (f_Most a wide acfc pfc x y m hm), ofN_length]
  by_cases h1 : m + 4 + sizeN wide < L.length
  · rw [if_pos (by omega), if_pos h1]; rfl
  rw [if_neg (by omega), if_neg h1]
  by_cases h2 : L.length ≤ sizeN wide
  · rw [if_pos (by omega), if_pos h2]; rfl
  rw [if_neg (by omega), if_neg h2, bd (f_Good wide L hL)]
  cases h3 : goodB wide L with
  | false => rw [if_neg (by decide), if_pos rfl]; rfl
  | true =>
    have e : wrap64 ((L.length : Int) - (sizeN wide : Int)) = ((L.length - sizeN wide : Nat) : Int) := by unfold wrap64; omega
    obtain ⟨n, hn⟩ : ∃ n, n = L.length - sizeN wide := ⟨_, rfl⟩
    have hT : ∀ x ∈ L.take n, x < 256 := fun x hx => hL x (List.mem_of_mem_take hx)
    have hg := f_getHead k a wide acfc pfc x y (m : Int) (L.take n) hT (by rw [List.length_take]; omega)
    rw [if_pos rfl, if_neg (show ¬ (true = false) by decide), e, ← hn, if_pos (by omega), if_pos (by omega), Int.toNat_natCast, ofN_take, bd hg, ofN_length]
    have hle := getHead_le acfc pfc (L.take n)
    generalize hH : getHead acfc pfc (L.take n) = t at hle ⊢
    obtain ⟨t1, t2, t3⟩ := t
    simp only at hle
    have key : ∀ (u : Int × Int × Int), u = ((t1 : Int), (t2 : Int), (t3 : Int)) → (if u.2.2 = 0 then (if 0 ≤ u.2.1 then (if u.2.1 ≤ ((L.take n).length : Int) then ((slices_Clone_byte_byte.f ((ofN (L.take n)).drop u.2.1.toNat)).bind fun t115 => (if (t115.length : Int) > (m : Int) then (some (0, ([] : List Int), 3)) else (some (u.1, t115, 0)))) else (none)) else (none)) else (some (0, ([] : List Int), u.2.2))) = (if ((t3 : Nat) : Int) = 0 then (if 0 ≤ ((t2 : Nat) : Int) then (if ((t2 : Nat) : Int) ≤ ((L.take n).length : Int) then ((slices_Clone_byte_byte.f ((ofN (L.take n)).drop ((t2 : Nat) : Int).toNat)).bind fun t115 => (if (t115.length : Int) > (m : Int) then (some (0, ([] : List Int), 3)) else (some (((t1 : Nat) : Int), t115, 0)))) else (none)) else (none)) else (some (0, ([] : List Int), ((t3 : Nat) : Int)))) := by rintro u rfl; rfl
    refine (key _ rfl).trans ?_
    clear key
    show _ = some (tri2 (if t3 ≠ 0 then (0, [], t3) else if m < ((L.take n).drop t2).length then (0, [], 3) else (t1, (L.take n).drop t2, 0)))
    by_cases h4 : t3 = 0
    · have hle := hle h4
      rw [if_pos (show ((t3 : Nat) : Int) = 0 by omega), if_pos (by omega), if_pos (by omega), if_neg (show ¬ (t3 ≠ 0) by simp [h4]), Int.toNat_natCast, ofN_drop, bd (clone_f _ (by rw [List.length_drop, List.length_take]; omega)), ofN_length]
      by_cases h5 : m < ((L.take n).drop t2).length
      · rw [if_pos (by omega), if_pos h5]; rfl
      · rw [if_neg (by omega), if_neg h5]; rfl
    · rw [if_neg (show ¬ ((t3 : Nat) : Int) = 0 by omega), if_pos (by simp [h4])]; rfl
end Go.Proofs.YtggpejjfgphihaaDoor.Pu
end

section
namespace Go.Proofs.YtggpejjfgphihaaDoor.Pu
open Go.RowKit Go.Proofs.YtggpejjfgphihaaDoorW.PrintWords Go.Proofs.YtggpejjfgphihaaDoorW.PrintLast Go.Proofs.YtggpejjfgphihaaDoorW.PrintMore
open Go.Proofs.YtggpejjfgphihaaDoor.Given Go.Proofs.YtggpejjfgphihaaDoor.D Go.Proofs.YtggpejjfgphihaaDoor.H Go.Proofs.YtggpejjfgphihaaDoor.E
set_option linter.unusedVariables false
set_option linter.unusedSimpArgs false
theorem right_odd11 {p : Nat} (h : right p = true) : p % 2 = 1 ∧ p / 256 % 2 = 0 ∧ p ≠ 255 := by
  simpa [right, and_assoc] using h
theorem getN_num11 (p : Nat) (hp : p < 65536) (hr : right p = true) (pfc pfc' : Bool) (hle : pfc = true → pfc' = true) (B : List Nat) : getN (numN p pfc ++ B) pfc' = (p, (numN p pfc).length, 0) := by
  obtain ⟨h1, h2, h3⟩ := right_odd11 hr
  unfold numN
  split
  · rename_i h
    have e : p % 256 = p := Nat.mod_eq_of_lt h.2
    simp [getN, e, h1, hr, hle h.1]
  · have e : 256 * (p / 256) + p % 256 = p := by omega
    simp [getN, h2, e, hr]
theorem begins_num11 (p : Nat) (hp : p < 65536) (hr : right p = true) (pfc : Bool) (B : List Nat) : begins (numN p pfc ++ B) = false := by
  obtain ⟨h1, h2, h3⟩ := right_odd11 hr
  unfold numN
  split
  · rename_i h
    have e : p % 256 = p := Nat.mod_eq_of_lt h.2
    rw [e]
    cases B with
    | nil => simp [begins]
    | cons b B => simp [begins, h3]
  · have : p / 256 ≠ 255 := by omega
    simp [begins, this]
theorem getHead_back11 (p : Nat) (hp : p < 65536) (hr : right p = true) (a a' b b' : Bool) (ha : a = true → a' = true) (hb : b = true → b' = true) (B : List Nat) : getHead a' b' (headN a b p ++ B) = (p, (headN a b p).length, 0) := by
  unfold headN
  split
  · rename_i h
    unfold getHead
    rw [begins_num11 p hp hr b B, ha h.1]
    simp only [Bool.true_eq_false, and_false, if_false, Bool.false_eq_true, getN_num11 p hp hr b b' hb B]
    simp
  · have hbe : begins (255 :: 3 :: numN p (b && decide (p ≠ 49185)) ++ B) = true := by simp [begins]
    unfold getHead
    rw [hbe]
    have hd : (255 :: 3 :: numN p (b && decide (p ≠ 49185)) ++ B).drop 2 = numN p (b && decide (p ≠ 49185)) ++ B := rfl
    simp only [Bool.true_eq_false, false_and, if_false, if_true, hd, getN_num11 p hp hr (b && decide (p ≠ 49185)) b' (fun h => hb (by simp at h; exact h.1)) B]
    simp; omega
theorem getN_out (l : List Nat) (hl : ∀ x ∈ l, x < 256) (s : Bool) : (getN l s).2.2 ≠ 6 ∧ ((getN l s).2.2 = 0 → right (getN l s).1 = true ∧ (getN l s).1 < 65536 ∧ (getN l s).2.1 ≤ l.length ∧ (numN (getN l s).1 s).length ≤ (getN l s).2.1) := by
  unfold getN
  match l, hl with
  | [], _ => simp
  | [c], hl =>
    have hc := hl c List.mem_cons_self
    simp only
    split
    · simp
    · split
      · rename_i h1 h2
        obtain ⟨h2, h3⟩ := h2
        refine ⟨by simp, fun _ => ⟨h2, by simp only; omega, by simp, by simp [numN, h3, hc]⟩⟩
      · simp
  | c :: d :: l, hl =>
    have hc := hl c List.mem_cons_self
    have hd := hl d (List.mem_cons_of_mem _ List.mem_cons_self)
    simp only
    split
    · split
      · rename_i h1 h2
        refine ⟨by simp, fun _ => ⟨h2, by simp only; omega, by simp, (numN_len _ _).2⟩⟩
      · simp
    · split
      · rename_i h1 h2
        obtain ⟨h2, h3⟩ := h2
        refine ⟨by simp, fun _ => ⟨h2, by simp only; omega, by simp, by simp [numN, h3, hc]⟩⟩
      · simp
theorem getHead_out (acfc pfc : Bool) (l : List Nat) (hl : ∀ x ∈ l, x < 256) : (getHead acfc pfc l).2.2 ≠ 6 ∧ ((getHead acfc pfc l).2.2 = 0 → right (getHead acfc pfc l).1 = true ∧ (getHead acfc pfc l).1 < 65536 ∧ (getHead acfc pfc l).2.1 ≤ l.length ∧ ((headN acfc pfc (getHead acfc pfc l).1).length ≤ (getHead acfc pfc l).2.1 ∨ (getHead acfc pfc l).1 = 49185)) := by
  have hle := getHead_le acfc pfc l
  unfold getHead at hle ⊢
  by_cases h1 : begins l = false ∧ acfc = false
  · rw [if_pos h1]; simp
  rw [if_neg h1] at hle ⊢
  have hl2 : ∀ x ∈ (if begins l = true then l.drop 2 else l), x < 256 := by
    intro x hx
    split at hx
    · exact hl x (List.mem_of_mem_drop hx)
    · exact hl x hx
  have ho := (getN_out _ hl2 pfc).2
  obtain ⟨t, ht⟩ : ∃ t, t = getN (if begins l = true then l.drop 2 else l) pfc := ⟨_, rfl⟩
  simp only [← ht] at hle ho ⊢
  by_cases h2 : t.2.2 = 0
  · rw [if_pos h2] at hle ⊢
    refine ⟨by simp, fun _ => ?_⟩
    obtain ⟨o1, o2, o3, o4⟩ := ho h2
    refine ⟨o1, o2, hle rfl, ?_⟩
    by_cases hL : t.1 = 49185
    · exact Or.inr hL
    refine Or.inl ?_
    unfold headN
    by_cases hb : begins l = true
    · simp only [hb, if_true]
      split
      · omega
      · simp only [hL, ne_eq, not_false_eq_true, decide_true, Bool.and_true, List.length_cons]; omega
    · have ha : acfc = true := by
        cases acfc
        · exact absurd ⟨by simpa using hb, rfl⟩ h1
        · rfl
      simp only [hb, if_false, Bool.false_eq_true]
      rw [if_pos ⟨ha, hL⟩]; omega
  · rw [if_neg h2]; simp
theorem parse_back (wide a b a' b' : Bool) (ha : a = true → a' = true) (hb : b = true → b' = true) (p : Nat) (hp : p < 65536) (hr : right p = true) (B : List Nat) (hB : ∀ x ∈ B, x < 256) (m : Nat) (hm : B.length ≤ m) :
    parseN wide a' b' m (frameN wide a b p B) = (p, B, 0) := by
  have hl := frameN_len wide a b p B
  have hh := headN_le a b p
  have hg : goodB wide (frameN wide a b p B) = true := goodB_trailer wide _ (headB_lt a b p hp B hB)
  have ht : (frameN wide a b p B).take ((frameN wide a b p B).length - sizeN wide) = headN a b p ++ B := by
    unfold frameN at hl ⊢
    rw [hl, show (headN a b p).length + B.length + sizeN wide - sizeN wide = (headN a b p ++ B).length by rw [List.length_append]; omega, List.take_left]
  unfold parseN
  rw [ht, getHead_back11 p hp hr a a' b b' ha hb B, hg, if_neg (by omega), if_neg (by omega), if_neg (by decide), if_neg (by simp)]
  simp only [List.drop_left]
  rw [if_neg (by omega)]
end Go.Proofs.YtggpejjfgphihaaDoor.Pu
end

section
namespace Go.Proofs.YtggpejjfgphihaaDoor.L
open Go.Proofs.YtggpejjfgphihaaDoor.Given Go.Proofs.YtggpejjfgphihaaDoor.D Go.Proofs.YtggpejjfgphihaaDoor.H Go.Proofs.YtggpejjfgphihaaDoor.E Go.RowKit Go.Proofs.YtggpejjfgphihaaDoorW.PrintWords Go.Proofs.YtggpejjfgphihaaDoorW.PrintLast Go.Proofs.YtggpejjfgphihaaDoorW.PrintMore
attribute [local go_sem] max2_int min2_int max_two min_two max_three min_three max_four min_four
open Go.Proofs.YtggpejjfgphihaaDoor.C (config_Most.f config_Most.calls marlineref08_Check.f marlineref08_Check.calls)
set_option linter.unusedVariables false
set_option linter.unusedSimpArgs false
def errW : Option Int → Value
  | none => .nilIface
  | some c => .iface 0 (.int .i64 c)
theorem errW_none : errW none = .nilIface := rfl
theorem errW_some (c : Int) : errW (some c) = .iface 0 (.int .i64 c) := rfl
theorem info5 : (Tryd.prog.info? 5).map (fun i => (i.zero, i.size, i.bytes)) = some (some (.int .u8 0), 1, 1) := by kernel_rfl
end Go.Proofs.YtggpejjfgphihaaDoor.L
end

section
namespace Go.Proofs.YtggpejjfgphihaaDoor.L
open Go.Proofs.YtggpejjfgphihaaDoor.Given Go.Proofs.YtggpejjfgphihaaDoor.D Go.Proofs.YtggpejjfgphihaaDoor.H Go.Proofs.YtggpejjfgphihaaDoor.E Go.RowKit Go.Proofs.YtggpejjfgphihaaDoorW.PrintWords Go.Proofs.YtggpejjfgphihaaDoorW.PrintLast Go.Proofs.YtggpejjfgphihaaDoorW.PrintMore
attribute [local go_sem] max2_int min2_int max_two min_two max_three min_three max_four min_four
open Go.Proofs.YtggpejjfgphihaaDoor.C (config_Most.f config_Most.calls marlineref08_Check.f marlineref08_Check.calls)
set_option linter.unusedVariables false
set_option linter.unusedSimpArgs false
def marlinelaw11_speaks.f (k : Nat)  : Option (Bool) := (frame_Build.f k false false true true 0 0 64 33 ([] : List Int)).bind fun bt101 => (if bt101.2 = 0 then (if (bt101.1.length : Int) = 3 then (if 0 < (bt101.1.length : Int) then (some ((rd bt101.1 0) == 33)) else (none)) else (some false)) else (some false))
set_option maxHeartbeats 8000000 in
set_option maxRecDepth 100000 in
theorem marlinelaw11_speaks.calls (k : Nat)  (r : Bool) (w : World) (hgF : GF w) (hgH : GH w) (h : marlinelaw11_speaks.f k  = some r) :
    Calls Tryd.prog 47 #[] w fun e w' => e = .returned (.bool r) ∧ Below w.heap.size w w' := by
  have hu26 := Tryd.underlying26
  have HGF := Aside0.mk hgF
  clear hgF
  have HGH := Aside0.mk hgH
  clear hgH
  have HB := Aside0.mk (Below.refl w.heap.size w)
  have H : ((frame_Build.f k false false true true 0 0 64 33 ([] : List Int)).bind fun bt101 => (if bt101.2 = 0 then (if (bt101.1.length : Int) = 3 then (if 0 < (bt101.1.length : Int) then (some ((rd bt101.1 0) == 33)) else (none)) else (some false)) else (some false))) = some r := h
  clear h
  replace H := Option.bind_eq_some_iff.mp H
  obtain ⟨⟨t101, t104⟩, A10, H⟩ := H
  replace H : (if t104 = 0 then (if (t101.length : Int) = 3 then (if 0 < (t101.length : Int) then (some ((rd t101 0) == 33)) else (none)) else (some false)) else (some false)) = some r := H
  have A1 := Aside0.mk A10
  clear A10
  by_cases c2 : t104 = 0
  · rw [if_pos c2] at H
    have c2b0 : (t104 == 0) = true := beq_iff_eq.mpr c2
    have c2b1 : (t104 != 0) = false := bne_eq_false_iff_eq.mpr c2
    clear c2
    by_cases c3 : (t101.length : Int) = 3
    · rw [if_pos c3] at H
      have c3b0 : ((t101.length : Int) == 3) = true := beq_iff_eq.mpr c3
      have c3b1 : ((t101.length : Int) != 3) = false := bne_eq_false_iff_eq.mpr c3
      clear c3
      by_cases c4 : 0 < (t101.length : Int)
      · rw [if_pos c4] at H
        have c4b0 : decide (0 < (t101.length : Int)) = true := decide_eq_true c4
        have c4b1 : decide (0 < t101.length) = true := decide_eq_true (by omega)
        clear c4
        obtain rfl := Option.some.inj H
        go_enter Tryd.func47, Tryd.ntmps47
        go_wp2_with (first | ((with_reducible refine gate_callee (f := 48) rfl ?_); refine goesL_ (some 5) rfl rfl Tryd.func48 (by kernel_rfl) rfl #[.agg #[.bool false, .bool false, .bool true, .bool true, .int .u32 0, .int .u32 0, .int .i64 64], .int .u16 33, .slice none 0 0] rfl (by (try simp only [List.map_toArray, List.map_cons, List.map_nil]); first | done | rfl | (simp only [List.length_drop, List.length_take]; rfl)) ?_; (refine (frame_Build.calls k false false true true 0 0 64 33 _ _ ([] : List Int) t101 t104 _ ?side1 ?side2 ?side3 ?side4 A1.out).mono ?_); (case side1 => exact Kd.C_nil _ _); (case side2 => exact Nat.le_refl _); (case side3 => repeat (first | exact HGF.out | (with_reducible refine GF_alloc ?_ _) | (with_reducible refine GF_drewN ?_ _) | (with_reducible refine GF_drew ?_))); (case side4 => repeat (first | exact HGH.out | (with_reducible refine GH_alloc ?_ _) | (with_reducible refine GH_drewN ?_ _) | (with_reducible refine GH_drew ?_))); rintro e w5 ⟨v102, rfl, ho0, hb⟩; refine ⟨_, rfl, ?_⟩; have n0_ := Aside0.mk (Kd.R_lower ho0 (below_size (by repeat (first | (with_reducible first | exact HB.out | apply below_alloc | apply pw_below_drewN | apply below_drew1) | exact HB.out)))); have n1_ := Aside0.mk (below_step (by repeat (first | (with_reducible first | exact HB.out | apply below_alloc | apply pw_below_drewN | apply below_drew1) | exact HB.out)) hb); clear HB; have HO103 := n0_; have HB := n1_; clear n0_ n1_; (try clear hb); (try clear hb2); (try clear hk); (try clear hi); (try clear ho0); obtain ⟨Ao6, co6, eo6⟩ := Kd.R_slice HO103.out; subst eo6; have p105 : 0 ≤ (0 : Int) := (by omega); have q105 : 0 < (t101.length : Int) := of_decide_eq_true (by first | (with_reducible assumption) | assumption); obtain ⟨ad105, e105, hx105_0⟩ := Kd.at_int (Kd.R_reads' HO103.out).2.2 0 p105 q105; cases e105; have qi105 : (0 < t101.length) = True := eq_true (by omega); (try rw [show ((0 : Int)).toNat = 0 from rfl] at hx105_0); (try rw [Addr.add_zero'] at hx105_0); replace p105 := eq_true p105; replace q105 := eq_true q105))
        go_ret
        exact ⟨by first | rfl | (simp [errW_none, errW_some] <;> rfl) | (simp [*, errW_none, errW_some] <;> rfl), by repeat (first | (with_reducible first | exact HB.out | apply below_alloc | apply pw_below_drewN | apply below_drew1) | exact HB.out)⟩
      · rw [if_neg c4] at H
        exact absurd H (by simp)
    · rw [if_neg c3] at H
      have c3b0 : ((t101.length : Int) == 3) = false := beq_eq_false_iff_ne.mpr c3
      have c3b1 : ((t101.length : Int) != 3) = true := bne_iff_ne.mpr c3
      obtain rfl := Option.some.inj H
      go_enter Tryd.func47, Tryd.ntmps47
      go_wp2_with (first | ((with_reducible refine gate_callee (f := 48) rfl ?_); refine goesL_ (some 5) rfl rfl Tryd.func48 (by kernel_rfl) rfl #[.agg #[.bool false, .bool false, .bool true, .bool true, .int .u32 0, .int .u32 0, .int .i64 64], .int .u16 33, .slice none 0 0] rfl (by (try simp only [List.map_toArray, List.map_cons, List.map_nil]); first | done | rfl | (simp only [List.length_drop, List.length_take]; rfl)) ?_; (refine (frame_Build.calls k false false true true 0 0 64 33 _ _ ([] : List Int) t101 t104 _ ?side1 ?side2 ?side3 ?side4 A1.out).mono ?_); (case side1 => exact Kd.C_nil _ _); (case side2 => exact Nat.le_refl _); (case side3 => repeat (first | exact HGF.out | (with_reducible refine GF_alloc ?_ _) | (with_reducible refine GF_drewN ?_ _) | (with_reducible refine GF_drew ?_))); (case side4 => repeat (first | exact HGH.out | (with_reducible refine GH_alloc ?_ _) | (with_reducible refine GH_drewN ?_ _) | (with_reducible refine GH_drew ?_))); rintro e w7 ⟨v102, rfl, ho0, hb⟩; refine ⟨_, rfl, ?_⟩; have n0_ := Aside0.mk (Kd.R_lower ho0 (below_size (by repeat (first | (with_reducible first | exact HB.out | apply below_alloc | apply pw_below_drewN | apply below_drew1) | exact HB.out)))); have n1_ := Aside0.mk (below_step (by repeat (first | (with_reducible first | exact HB.out | apply below_alloc | apply pw_below_drewN | apply below_drew1) | exact HB.out)) hb); clear HB; have HO103 := n0_; have HB := n1_; clear n0_ n1_; (try clear hb); (try clear hb2); (try clear hk); (try clear hi); (try clear ho0); obtain ⟨Ao8, co8, eo8⟩ := Kd.R_slice HO103.out; subst eo8))
      go_ret
      exact ⟨by first | rfl | (simp [errW_none, errW_some] <;> rfl) | (simp [*, errW_none, errW_some] <;> rfl), by repeat (first | (with_reducible first | exact HB.out | apply below_alloc | apply pw_below_drewN | apply below_drew1) | exact HB.out)⟩
  · rw [if_neg c2] at H
    have c2b0 : (t104 == 0) = false := beq_eq_false_iff_ne.mpr c2
    have c2b1 : (t104 != 0) = true := bne_iff_ne.mpr c2
    obtain rfl := Option.some.inj H
    go_enter Tryd.func47, Tryd.ntmps47
    go_wp2_with (first | ((with_reducible refine gate_callee (f := 48) rfl ?_); refine goesL_ (some 5) rfl rfl Tryd.func48 (by kernel_rfl) rfl #[.agg #[.bool false, .bool false, .bool true, .bool true, .int .u32 0, .int .u32 0, .int .i64 64], .int .u16 33, .slice none 0 0] rfl (by (try simp only [List.map_toArray, List.map_cons, List.map_nil]); first | done | rfl | (simp only [List.length_drop, List.length_take]; rfl)) ?_; (refine (frame_Build.calls k false false true true 0 0 64 33 _ _ ([] : List Int) t101 t104 _ ?side1 ?side2 ?side3 ?side4 A1.out).mono ?_); (case side1 => exact Kd.C_nil _ _); (case side2 => exact Nat.le_refl _); (case side3 => repeat (first | exact HGF.out | (with_reducible refine GF_alloc ?_ _) | (with_reducible refine GF_drewN ?_ _) | (with_reducible refine GF_drew ?_))); (case side4 => repeat (first | exact HGH.out | (with_reducible refine GH_alloc ?_ _) | (with_reducible refine GH_drewN ?_ _) | (with_reducible refine GH_drew ?_))); rintro e w9 ⟨v102, rfl, ho0, hb⟩; refine ⟨_, rfl, ?_⟩; have n0_ := Aside0.mk (Kd.R_lower ho0 (below_size (by repeat (first | (with_reducible first | exact HB.out | apply below_alloc | apply pw_below_drewN | apply below_drew1) | exact HB.out)))); have n1_ := Aside0.mk (below_step (by repeat (first | (with_reducible first | exact HB.out | apply below_alloc | apply pw_below_drewN | apply below_drew1) | exact HB.out)) hb); clear HB; have HO103 := n0_; have HB := n1_; clear n0_ n1_; (try clear hb); (try clear hb2); (try clear hk); (try clear hi); (try clear ho0)))
    go_ret
    exact ⟨by first | rfl | (simp [errW_none, errW_some] <;> rfl) | (simp [*, errW_none, errW_some] <;> rfl), by repeat (first | (with_reducible first | exact HB.out | apply below_alloc | apply pw_below_drewN | apply below_drew1) | exact HB.out)⟩
end Go.Proofs.YtggpejjfgphihaaDoor.L
end

section
namespace Go.Proofs.YtggpejjfgphihaaDoor.Pu
open Go.RowKit Go.Proofs.YtggpejjfgphihaaDoorW.PrintWords Go.Proofs.YtggpejjfgphihaaDoorW.PrintLast Go.Proofs.YtggpejjfgphihaaDoorW.PrintMore
open Go.Proofs.YtggpejjfgphihaaDoor.Given Go.Proofs.YtggpejjfgphihaaDoor.D Go.Proofs.YtggpejjfgphihaaDoor.H Go.Proofs.YtggpejjfgphihaaDoor.E Go.Proofs.YtggpejjfgphihaaDoor.L
set_option linter.unusedVariables false
set_option linter.unusedSimpArgs false
theorem bytes_of11 {l : List Int} (h : l.all okByte = true) : ∀ x ∈ l.map Int.toNat, x < 256 := by
  intro x hx
  obtain ⟨y, hy, rfl⟩ := List.mem_map.1 hx
  have := List.all_eq_true.1 h y hy
  simp [okByte] at this
  omega
theorem speaks11 (k : Nat) : marlinelaw11_speaks.f (k + 5) = some true := by
  have h := f_Build k false false true true 0 0 64 33 (by decide) [] (by simp) (by decide)
  have hl := frameN_len false true true 33 []
  unfold marlinelaw11_speaks.f
  have h' : frame_Build.f (k + 5) false false true true 0 0 64 33 ([] : List Int) = some (ofN (frameN false true true 33 []), 0) := by
    rw [show ([] : List Int) = ofN [] from rfl, show (33 : Int) = ((33 : Nat) : Int) from rfl, h, if_pos (by decide), if_neg (by decide)]
  have h3 : (headN true true 33).length = 1 := by decide
  have h4 : sizeN false = 2 := by decide
  simp only [List.length_nil] at hl
  have hr : rd (ofN (frameN false true true 33 [])) 0 = 33 := rfl
  rw [bd h', if_pos rfl, if_pos (by rw [ofN_length]; omega), if_pos (by rw [ofN_length]; omega)]
  show some (rd (ofN (frameN false true true 33 [])) 0 == 33) = some true
  rw [hr]; rfl
end Go.Proofs.YtggpejjfgphihaaDoor.Pu
end
