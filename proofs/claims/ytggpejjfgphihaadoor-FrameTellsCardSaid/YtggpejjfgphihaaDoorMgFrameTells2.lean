/- Laid together by wip/prune.py: what the claim needs of the session's texts and of the print program's words. -/
import Derived.Test.YtggpejjfgphihaaDoorMgFrameTells1
import Derived.Lib.Bytes
import Derived.Test.YtggpejjfgphihaaDoorProg
import Derived.Below
import Derived.Deep.Draws
import Derived.Deep.AppendLies
import Derived.Maps.AppendAt
import Derived.OwnWalk
import Derived.Laws.BytesArg
import Derived.Laws.MakeOwn
import Derived.Laws.OwnMore
import Derived.Deep.OwnRows
import Derived.Tactics
import Derived.Lib.ConvBytes
import Derived.Laws.Slices
import Derived.WalkKit
import Derived.KernelRfl
import Derived.RowKit3
import Derived.Deep.LoopGhost
import Derived.Deep.QuietTactic
import Derived.BigQuiet
import Derived.WideLaws
import Derived.Deep.DeepCutAuto
import Derived.Deep.CutBlock
import Derived.Deep.RegionHeld3
import Derived.Laws.Rows
import Derived.Lib.AppendStr
import Derived.ArgAppend
import Derived.Laws.IdiomCopy
import Derived.OrdersHeld
import Derived.Laws.BitsLemmas
import Derived.RowKit
section
namespace Go.Proofs.YtggpejjfgphihaaDoor.H
open Go.Proofs.YtggpejjfgphihaaDoor.Given Go.Proofs.YtggpejjfgphihaaDoor.D Go.RowKit Go.Proofs.YtggpejjfgphihaaDoorW.PrintWords Go.Proofs.YtggpejjfgphihaaDoorW.PrintLast Go.Proofs.YtggpejjfgphihaaDoorW.PrintMore
attribute [local go_sem] max2_int min2_int max_two min_two max_three min_three max_four min_four
set_option linter.unusedVariables false
set_option linter.unusedSimpArgs false
def marlineref10_Put.f (a0_0 : Bool) (a0_1 : Bool) (a0_2 : Bool) (a0_3 : Bool) (a0_4 : Int) (a0_5 : Int) (a0_6 : Int) (a1 : Int) : Option (List Int) := (some (([] : List Int) : List Int)).bind fun y160 => (if a0_2 = true then (if a1 = 49185 then ((some (([255, 3] : List Int) : List Int)).bind fun y163 => (if y160.length + y163.length < 140737488355328 then ((some (y160 ++ y163 : List Int)).bind fun y166 => (if a0_3 = true then ((marlineref09_Put.f a1 (a1 != 49185)).bind fun t169 => (if y166.length + t169.length < 140737488355328 then (some (y166 ++ t169)) else (none))) else ((marlineref09_Put.f a1 false).bind fun t175 => (if y166.length + t175.length < 140737488355328 then (some (y166 ++ t175)) else (none))))) else (none))) else (if a0_3 = true then ((marlineref09_Put.f a1 (a1 != 49185)).bind fun t181 => (if y160.length + t181.length < 140737488355328 then (some (y160 ++ t181)) else (none))) else ((marlineref09_Put.f a1 false).bind fun t187 => (if y160.length + t187.length < 140737488355328 then (some (y160 ++ t187)) else (none))))) else ((some (([255, 3] : List Int) : List Int)).bind fun y193 => (if y160.length + y193.length < 140737488355328 then ((some (y160 ++ y193 : List Int)).bind fun y196 => (if a0_3 = true then ((marlineref09_Put.f a1 (a1 != 49185)).bind fun t199 => (if y196.length + t199.length < 140737488355328 then (some (y196 ++ t199)) else (none))) else ((marlineref09_Put.f a1 false).bind fun t205 => (if y196.length + t205.length < 140737488355328 then (some (y196 ++ t205)) else (none))))) else (none))))
set_option maxHeartbeats 8000000 in
set_option maxRecDepth 100000 in
theorem marlineref10_Put.calls (a0_0 : Bool) (a0_1 : Bool) (a0_2 : Bool) (a0_3 : Bool) (a0_4 : Int) (a0_5 : Int) (a0_6 : Int) (a1 : Int) (r : List Int) (w : World) (h : marlineref10_Put.f a0_0 a0_1 a0_2 a0_3 a0_4 a0_5 a0_6 a1 = some r) :
    Calls Tryd.prog 33 #[.agg #[.bool a0_0, .bool a0_1, .bool a0_2, .bool a0_3, .int .u32 a0_4, .int .u32 a0_5, .int .i64 a0_6], .int .i64 a1] w fun e w' => ∃ v0_ : Value, e = .returned (v0_) ∧ Kd.R (Kd.int .u8) 5 w' w.heap.size (fun _ => True) v0_ r ∧ Below w.heap.size w w' := by
  have hu24 := Tryd.underlying24
  have HB := Aside0.mk (Below.refl w.heap.size w)
  have H : ((some (([] : List Int) : List Int)).bind fun y160 => (if a0_2 = true then (if a1 = 49185 then ((some (([255, 3] : List Int) : List Int)).bind fun y163 => (if y160.length + y163.length < 140737488355328 then ((some (y160 ++ y163 : List Int)).bind fun y166 => (if a0_3 = true then ((marlineref09_Put.f a1 (a1 != 49185)).bind fun t169 => (if y166.length + t169.length < 140737488355328 then (some (y166 ++ t169)) else (none))) else ((marlineref09_Put.f a1 false).bind fun t175 => (if y166.length + t175.length < 140737488355328 then (some (y166 ++ t175)) else (none))))) else (none))) else (if a0_3 = true then ((marlineref09_Put.f a1 (a1 != 49185)).bind fun t181 => (if y160.length + t181.length < 140737488355328 then (some (y160 ++ t181)) else (none))) else ((marlineref09_Put.f a1 false).bind fun t187 => (if y160.length + t187.length < 140737488355328 then (some (y160 ++ t187)) else (none))))) else ((some (([255, 3] : List Int) : List Int)).bind fun y193 => (if y160.length + y193.length < 140737488355328 then ((some (y160 ++ y193 : List Int)).bind fun y196 => (if a0_3 = true then ((marlineref09_Put.f a1 (a1 != 49185)).bind fun t199 => (if y196.length + t199.length < 140737488355328 then (some (y196 ++ t199)) else (none))) else ((marlineref09_Put.f a1 false).bind fun t205 => (if y196.length + t205.length < 140737488355328 then (some (y196 ++ t205)) else (none))))) else (none))))) = some r := h
  clear h
  obtain ⟨y160, hy160⟩ : ∃ y_ : List Int, y_ = (([] : List Int)) := ⟨_, rfl⟩
  replace H : (if a0_2 = true then (if a1 = 49185 then ((some (([255, 3] : List Int) : List Int)).bind fun y163 => (if y160.length + y163.length < 140737488355328 then ((some (y160 ++ y163 : List Int)).bind fun y166 => (if a0_3 = true then ((marlineref09_Put.f a1 (a1 != 49185)).bind fun t169 => (if y166.length + t169.length < 140737488355328 then (some (y166 ++ t169)) else (none))) else ((marlineref09_Put.f a1 false).bind fun t175 => (if y166.length + t175.length < 140737488355328 then (some (y166 ++ t175)) else (none))))) else (none))) else (if a0_3 = true then ((marlineref09_Put.f a1 (a1 != 49185)).bind fun t181 => (if y160.length + t181.length < 140737488355328 then (some (y160 ++ t181)) else (none))) else ((marlineref09_Put.f a1 false).bind fun t187 => (if y160.length + t187.length < 140737488355328 then (some (y160 ++ t187)) else (none))))) else ((some (([255, 3] : List Int) : List Int)).bind fun y193 => (if y160.length + y193.length < 140737488355328 then ((some (y160 ++ y193 : List Int)).bind fun y196 => (if a0_3 = true then ((marlineref09_Put.f a1 (a1 != 49185)).bind fun t199 => (if y196.length + t199.length < 140737488355328 then (some (y196 ++ t199)) else (none))) else ((marlineref09_Put.f a1 false).bind fun t205 => (if y196.length + t205.length < 140737488355328 then (some (y196 ++ t205)) else (none))))) else (none)))) = some r := by first | (rw [hy160]; with_reducible exact H) | (have H2_ := (Option.bind_some _ _).symm.trans H; rw [hy160]; with_reducible exact H2_) | (have H2_ := (Option.bind_some _ _).symm.trans H; with_reducible exact H2_) | with_reducible exact H | (rw [hy160]; exact H) | exact H
  have Ny160 := Aside0.mk hy160
  clear hy160
  by_cases c3 : a0_2 = true
  · subst c3
    have H1 : (if a1 = 49185 then ((some (([255, 3] : List Int) : List Int)).bind fun y163 => (if y160.length + y163.length < 140737488355328 then ((some (y160 ++ y163 : List Int)).bind fun y166 => (if a0_3 = true then ((marlineref09_Put.f a1 (a1 != 49185)).bind fun t169 => (if y166.length + t169.length < 140737488355328 then (some (y166 ++ t169)) else (none))) else ((marlineref09_Put.f a1 false).bind fun t175 => (if y166.length + t175.length < 140737488355328 then (some (y166 ++ t175)) else (none))))) else (none))) else (if a0_3 = true then ((marlineref09_Put.f a1 (a1 != 49185)).bind fun t181 => (if y160.length + t181.length < 140737488355328 then (some (y160 ++ t181)) else (none))) else ((marlineref09_Put.f a1 false).bind fun t187 => (if y160.length + t187.length < 140737488355328 then (some (y160 ++ t187)) else (none))))) = some r := by rw [if_pos rfl] at H; exact H
    clear H
    have H := H1
    clear H1
    by_cases c4 : a1 = 49185
    · rw [if_pos c4] at H
      have c4b0 : (a1 == 49185) = true := beq_iff_eq.mpr c4
      have c4b1 : (a1 != 49185) = false := bne_eq_false_iff_eq.mpr c4
      (try rw [c4b1] at H)
      clear c4
      obtain ⟨y163, hy163⟩ : ∃ y_ : List Int, y_ = (([255, 3] : List Int)) := ⟨_, rfl⟩
      replace H : (if y160.length + y163.length < 140737488355328 then ((some (y160 ++ y163 : List Int)).bind fun y166 => (if a0_3 = true then ((marlineref09_Put.f a1 false).bind fun t169 => (if y166.length + t169.length < 140737488355328 then (some (y166 ++ t169)) else (none))) else ((marlineref09_Put.f a1 false).bind fun t175 => (if y166.length + t175.length < 140737488355328 then (some (y166 ++ t175)) else (none))))) else (none)) = some r := by first | (rw [hy163]; with_reducible exact H) | (have H2_ := (Option.bind_some _ _).symm.trans H; rw [hy163]; with_reducible exact H2_) | (have H2_ := (Option.bind_some _ _).symm.trans H; with_reducible exact H2_) | with_reducible exact H | (rw [hy163]; exact H) | exact H
      have Ny163 := Aside0.mk hy163
      clear hy163
      by_cases c5 : y160.length + y163.length < 140737488355328
      · rw [if_pos c5] at H
        have LMc5 := Aside0.mk c5
        clear c5
        obtain ⟨y166, hy166⟩ : ∃ y_ : List Int, y_ = (y160 ++ y163) := ⟨_, rfl⟩
        replace H : (if a0_3 = true then ((marlineref09_Put.f a1 false).bind fun t169 => (if y166.length + t169.length < 140737488355328 then (some (y166 ++ t169)) else (none))) else ((marlineref09_Put.f a1 false).bind fun t175 => (if y166.length + t175.length < 140737488355328 then (some (y166 ++ t175)) else (none)))) = some r := by first | (rw [hy166]; with_reducible exact H) | (have H2_ := (Option.bind_some _ _).symm.trans H; rw [hy166]; with_reducible exact H2_) | (have H2_ := (Option.bind_some _ _).symm.trans H; with_reducible exact H2_) | with_reducible exact H | (rw [hy166]; exact H) | exact H
        have Ny166 := Aside0.mk hy166
        clear hy166
        by_cases c6 : a0_3 = true
        · subst c6
          have H1 : ((marlineref09_Put.f a1 false).bind fun t169 => (if y166.length + t169.length < 140737488355328 then (some (y166 ++ t169)) else (none))) = some r := by rw [if_pos rfl] at H; exact H
          clear H
          have H := H1
          clear H1
          replace H := Option.bind_eq_some_iff.mp H
          obtain ⟨t169, A70, H⟩ := H
          replace H : (if y166.length + t169.length < 140737488355328 then (some (y166 ++ t169)) else (none)) = some r := H
          have A7 := Aside0.mk A70
          clear A70
          by_cases c8 : y166.length + t169.length < 140737488355328
          · rw [if_pos c8] at H
            have LMc8 := Aside0.mk c8
            clear c8
            obtain ⟨y172, hy172⟩ : ∃ y_ : List Int, y_ = (y166 ++ t169) := ⟨_, rfl⟩
            replace H : (some y172) = some r := by first | (rw [hy172]; with_reducible exact H) | (have H2_ := (Option.bind_some _ _).symm.trans H; rw [hy172]; with_reducible exact H2_) | (have H2_ := (Option.bind_some _ _).symm.trans H; with_reducible exact H2_) | with_reducible exact H | (rw [hy172]; exact H) | exact H
            have Ny172 := Aside0.mk hy172
            clear hy172
            obtain rfl := Option.some.inj H
            go_enter Tryd.func33, Tryd.ntmps33
            go_wp2_with (first | ((with_reducible refine gate_dst (N := 2) rfl ?_); refine box_event ?hg (N := 2) ?hd (cs := #[.bool a0_0, .bool a0_1, .bool true, .bool true, .int .u32 a0_4, .int .u32 a0_5, .int .i64 a0_6]) (t := 24) ?hr ?_; (case hd => rfl); (case hg => rfl); (case hr => first | (go_simp; done) | (go_simp; rfl)); intro gb159 hg w9 hbox hb; have n0_ := Aside0.mk (below_step (by repeat (first | (with_reducible first | exact HB.out | apply below_alloc | apply pw_below_drewN | apply below_drew1) | exact HB.out)) hb); have n1_ := Aside0.mk (hbox); have n2_ := Aside0.mk ((by rw [hg]; exact (below_size (by repeat (first | (with_reducible first | exact HB.out | apply below_alloc | apply pw_below_drewN | apply below_drew1) | exact HB.out))) : w.heap.size ≤ gb159)); have n3_ := Aside0.mk ((by rw [hg]; exact (below_size (by repeat (first | (with_reducible first | exact HB.out | apply below_alloc | apply pw_below_drewN | apply below_drew1) | exact HB.out))) : w.heap.size ≤ gb159)); clear HB; have HB := n0_; have BK159 := n1_; have GW159 := n2_; have GE159 := n3_; clear n0_ n1_ n2_ n3_; clear hb hbox hg) | ((with_reducible refine gate_dst (N := 6) rfl ?_); refine Kd.R_lit (Kd.int .u8) _ 5 ?hg (N := 6) ?hd (xs := ([] : List Int)) (inner := []) (ok := fun _ => True) (okp := fun _ => True) ?hr ?hp (fun _ hk => hk) trivial (Below.refl _ _) (Nat.le_refl _) (by simp) ?_; (case hd => rfl); (case hg => rfl); (case hr => first | (go_simp; done) | (go_simp; rfl)); (case hp => exact (Reps.none _ _)); intro v161 w10 ho11 hb hg_ hnew_; clear hg_ hnew_; (first | rw [← Ny160.out] at ho11 | (simp only [Int.reduceToNat] at ho11; rw [← Ny160.out] at ho11)); have n0_ := Aside0.mk (Kd.R_lower ho11 (below_size (by repeat (first | (with_reducible first | exact HB.out | apply below_alloc | apply pw_below_drewN | apply below_drew1 | refine below_set ?_ GE159.out) | exact HB.out)))); have n1_ := Aside0.mk (blk_below (g := gb159) (o := .cells #[.bool a0_0, .bool a0_1, .bool true, .bool true, .int .u32 a0_4, .int .u32 a0_5, .int .i64 a0_6] 24 (0, 0)) (by (with_reducible repeat (first | refine blk_drewN ?_ _ | refine blk_drew ?_ | refine blk_alloc ?_ _)); exact BK159.out) hb); have n2_ := Aside0.mk (below_step (by repeat (first | (with_reducible first | exact HB.out | apply below_alloc | apply pw_below_drewN | apply below_drew1 | refine below_set ?_ GE159.out) | exact HB.out)) hb); clear BK159; clear HB; have HO162 := n0_; have BK159 := n1_; have HB := n2_; clear n0_ n1_ n2_; clear hb ho11; have hcz12_0 : w10.cell? ⟨gb159, 0, none⟩ = some (.bool a0_0) := (blk_cell BK159.out 0).trans rfl; have hcz12_1 : w10.cell? ⟨gb159, 1, none⟩ = some (.bool a0_1) := (blk_cell BK159.out 1).trans rfl; have hcz12_2 : w10.cell? ⟨gb159, 2, none⟩ = some (.bool true) := (blk_cell BK159.out 2).trans rfl; have hcz12_3 : w10.cell? ⟨gb159, 3, none⟩ = some (.bool true) := (blk_cell BK159.out 3).trans rfl; have hcz12_4 : w10.cell? ⟨gb159, 4, none⟩ = some (.int .u32 a0_4) := (blk_cell BK159.out 4).trans rfl; have hcz12_5 : w10.cell? ⟨gb159, 5, none⟩ = some (.int .u32 a0_5) := (blk_cell BK159.out 5).trans rfl; have hcz12_6 : w10.cell? ⟨gb159, 6, none⟩ = some (.int .i64 a0_6) := (blk_cell BK159.out 6).trans rfl; have hfz12_0 := blk_frozen BK159.out 0; have hfz12_1 := blk_frozen BK159.out 1; have hfz12_2 := blk_frozen BK159.out 2; have hfz12_3 := blk_frozen BK159.out 3; have hfz12_4 := blk_frozen BK159.out 4; have hfz12_5 := blk_frozen BK159.out 5; have hfz12_6 := blk_frozen BK159.out 6) | ((with_reducible refine gate_dst (N := 15) rfl ?_); refine Kd.R_lit (Kd.int .u8) _ 5 ?hg (N := 15) ?hd (xs := ([255, 3] : List Int)) (inner := [.int .u8 255, .int .u8 3]) (ok := fun _ => True) (okp := fun _ => True) ?hr ?hp (fun _ hk => hk) trivial (Below.refl _ _) (Nat.le_refl _) (by simp) ?_; (case hd => rfl); (case hg => rfl); (case hr => first | (go_simp; done) | (go_simp; rfl)); (case hp => exact (Reps.one (show Kd.M (Kd.int .u8) _ _ _ 255 [.int .u8 255] from rfl) (Reps.one (show Kd.M (Kd.int .u8) _ _ _ 3 [.int .u8 3] from rfl) (Reps.none _ _)))); intro v164 w13 ho14 hb hg_ hnew_; clear hg_ hnew_; (first | rw [← Ny163.out] at ho14 | (simp only [Int.reduceToNat] at ho14; rw [← Ny163.out] at ho14)); have n0_ := Aside0.mk (Kd.R_elder' (by (with_reducible repeat (first | apply Kd.R_alloc | apply Kd.R_drewN | apply Kd.R_drew)); exact HO162.out) (Kd.R_base ho14) hb); have n1_ := Aside0.mk (Kd.R_lower (Kd.R_new' ho14 (Kd.R_lt (by (with_reducible repeat (first | apply Kd.R_alloc | apply Kd.R_drewN | apply Kd.R_drew)); exact HO162.out))) (below_size (by repeat (first | (with_reducible first | exact HB.out | apply below_alloc | apply pw_below_drewN | apply below_drew1 | refine below_set ?_ GE159.out) | exact HB.out)))); have n2_ := Aside0.mk (blk_below (g := gb159) (o := .cells #[.bool a0_0, .bool a0_1, .bool true, .bool true, .int .u32 a0_4, .int .u32 a0_5, .int .i64 a0_6] 24 (0, 0)) (by (with_reducible repeat (first | refine blk_drewN ?_ _ | refine blk_drew ?_ | refine blk_alloc ?_ _)); exact BK159.out) hb); have n3_ := Aside0.mk (below_step (by repeat (first | (with_reducible first | exact HB.out | apply below_alloc | apply pw_below_drewN | apply below_drew1 | refine below_set ?_ GE159.out) | exact HB.out)) hb); clear HO162; clear BK159; clear HB; have HO162 := n0_; have HO165 := n1_; have BK159 := n2_; have HB := n3_; clear n0_ n1_ n2_ n3_; clear hb ho14; obtain ⟨Ao16, co16, eo16⟩ := Kd.R_slice HO165.out; subst eo16) | ((with_reducible refine gate_builtin (b := .append) (xs := #[.tmp 14, .tmp 15]) rfl ?_); at_builtin; refine Kd.R_append_rows (Kd.int .u8) (w0 := w) w.heap.size rfl (.tmp 14) (.tmp 15) 35 5 (.int .u8 0) 1 rfl Tryd.underlying35 info5 rfl (by decide) (by omega) v161 y160 y163 _ _ _ (fun k_ => some k_ ≠ (.slice Ao16 y163.length co16 : Value).ownBlock) (fun _ => False) rfl rfl ?aO ?aR (fun _ _ h => h) (fun _ h => h.elim) ?aF ?aB ?aS ?aL ?_; (case aR => repeat (first | exact (Kd.R_reads' HO165.out).2.2 | (with_reducible refine Kd.C_alloc ?_ _) | (with_reducible refine Kd.C_drewN ?_ _) | (with_reducible refine Kd.C_drew ?_))); (case aB => exact (by repeat (first | (with_reducible first | exact HB.out | apply below_alloc | apply pw_below_drewN | apply below_drew1 | refine below_set ?_ GE159.out) | exact HB.out))); (case aF => exact (fun k_ hk => Kd.fresh' (Kd.R_lt (by (with_reducible repeat (first | apply Kd.R_alloc | apply Kd.R_drewN | apply Kd.R_drew)); exact HO165.out)) k_ hk)); (case aO => exact (by (with_reducible repeat (first | apply Kd.R_alloc | apply Kd.R_drewN | apply Kd.R_drew)); exact Kd.R_mono HO162.out (fun _ hk => hk.2))); (case aS => exact (below_size (by repeat (first | (with_reducible first | exact HB.out | apply below_alloc | apply pw_below_drewN | apply below_drew1 | refine below_set ?_ GE159.out) | exact HB.out)))); (case aL => have := LMc5.out; omega); intro v167 w15 ho hb hg hat; rw [← Ny166.out] at ho; have n0_ := Aside0.mk (blk_grown (g := gb159) (o := .cells #[.bool a0_0, .bool a0_1, .bool true, .bool true, .int .u32 a0_4, .int .u32 a0_5, .int .i64 a0_6] 24 (0, 0)) (by (with_reducible repeat (first | refine blk_drewN ?_ _ | refine blk_drew ?_ | refine blk_alloc ?_ _)); exact BK159.out) hg (Kd.R_ne HO162.out BK159.out (by decide))); have n1_ := Aside0.mk (Kd.R_after (ok := (fun _ => True)) (by (with_reducible repeat (first | apply Kd.R_alloc | apply Kd.R_drewN | apply Kd.R_drew)); exact HO165.out) hg hat); have n2_ := Aside0.mk (hb); have n3_ := Aside0.mk (ho); clear BK159; clear HO165; clear HB; clear HO162; have BK159 := n0_; have HO165 := n1_; have HB := n2_; have HO168 := n3_; clear n0_ n1_ n2_ n3_; clear ho hb hg hat; have hcz17_0 : w15.cell? ⟨gb159, 0, none⟩ = some (.bool a0_0) := (blk_cell BK159.out 0).trans rfl; have hcz17_1 : w15.cell? ⟨gb159, 1, none⟩ = some (.bool a0_1) := (blk_cell BK159.out 1).trans rfl; have hcz17_2 : w15.cell? ⟨gb159, 2, none⟩ = some (.bool true) := (blk_cell BK159.out 2).trans rfl; have hcz17_3 : w15.cell? ⟨gb159, 3, none⟩ = some (.bool true) := (blk_cell BK159.out 3).trans rfl; have hcz17_4 : w15.cell? ⟨gb159, 4, none⟩ = some (.int .u32 a0_4) := (blk_cell BK159.out 4).trans rfl; have hcz17_5 : w15.cell? ⟨gb159, 5, none⟩ = some (.int .u32 a0_5) := (blk_cell BK159.out 5).trans rfl; have hcz17_6 : w15.cell? ⟨gb159, 6, none⟩ = some (.int .i64 a0_6) := (blk_cell BK159.out 6).trans rfl; have hfz17_0 := blk_frozen BK159.out 0; have hfz17_1 := blk_frozen BK159.out 1; have hfz17_2 := blk_frozen BK159.out 2; have hfz17_3 := blk_frozen BK159.out 3; have hfz17_4 := blk_frozen BK159.out 4; have hfz17_5 := blk_frozen BK159.out 5; have hfz17_6 := blk_frozen BK159.out 6) | ((with_reducible refine gate_callee (f := 61) rfl ?_); refine goesL_ (some 25) rfl rfl Tryd.func61 (by kernel_rfl) rfl #[.int .i64 a1, .bool false] rfl (by (try simp only [List.map_toArray, List.map_cons, List.map_nil]); first | done | rfl | (simp only [List.length_drop, List.length_take]; rfl)) ?_; (with_reducible refine (marlineref09_Put.calls a1 false t169 _ A7.out).mono ?_); rintro e w18 ⟨v170, rfl, ho0, hb⟩; refine ⟨_, rfl, ?_⟩; have n0_ := Aside0.mk (Kd.R_elder' (by (with_reducible repeat (first | apply Kd.R_alloc | apply Kd.R_drewN | apply Kd.R_drew)); exact HO165.out) (Kd.R_base ho0) hb); have n1_ := Aside0.mk (Kd.R_elder' (by (with_reducible repeat (first | apply Kd.R_alloc | apply Kd.R_drewN | apply Kd.R_drew)); exact HO168.out) (Kd.R_base ho0) hb); have n2_ := Aside0.mk (Kd.R_lower (Kd.R_new' (Kd.R_new' ho0 (Kd.R_lt (by (with_reducible repeat (first | apply Kd.R_alloc | apply Kd.R_drewN | apply Kd.R_drew)); exact HO165.out))) (Kd.R_lt (by (with_reducible repeat (first | apply Kd.R_alloc | apply Kd.R_drewN | apply Kd.R_drew)); exact HO168.out))) (below_size (by repeat (first | (with_reducible first | exact HB.out | apply below_alloc | apply pw_below_drewN | apply below_drew1 | refine below_set ?_ GE159.out) | exact HB.out)))); have n3_ := Aside0.mk (blk_below (g := gb159) (o := .cells #[.bool a0_0, .bool a0_1, .bool true, .bool true, .int .u32 a0_4, .int .u32 a0_5, .int .i64 a0_6] 24 (0, 0)) (by (with_reducible repeat (first | refine blk_drewN ?_ _ | refine blk_drew ?_ | refine blk_alloc ?_ _)); exact BK159.out) hb); have n4_ := Aside0.mk (below_step (by repeat (first | (with_reducible first | exact HB.out | apply below_alloc | apply pw_below_drewN | apply below_drew1 | refine below_set ?_ GE159.out) | exact HB.out)) hb); clear HO165; clear HO168; clear BK159; clear HB; have HO165 := n0_; have HO168 := n1_; have HO171 := n2_; have BK159 := n3_; have HB := n4_; clear n0_ n1_ n2_ n3_ n4_; (try clear hb); (try clear hb2); (try clear hk); (try clear hi); (try clear ho0); obtain ⟨Ao20, co20, eo20⟩ := Kd.R_slice HO171.out; subst eo20) | ((with_reducible refine gate_builtin (b := .append) (xs := #[.tmp 17, .tmp 25]) rfl ?_); at_builtin; refine Kd.R_append_rows (Kd.int .u8) (w0 := w) w.heap.size rfl (.tmp 17) (.tmp 25) 35 5 (.int .u8 0) 1 rfl Tryd.underlying35 info5 rfl (by decide) (by omega) v167 y166 t169 _ _ _ (fun k_ => some k_ ≠ (.slice Ao16 y163.length co16 : Value).ownBlock ∧ some k_ ≠ (.slice Ao20 t169.length co20 : Value).ownBlock) (fun _ => False) rfl rfl ?aO ?aR (fun _ _ h => h) (fun _ h => h.elim) ?aF ?aB ?aS ?aL ?_; (case aR => repeat (first | exact (Kd.R_reads' HO171.out).2.2 | (with_reducible refine Kd.C_alloc ?_ _) | (with_reducible refine Kd.C_drewN ?_ _) | (with_reducible refine Kd.C_drew ?_))); (case aB => exact (by repeat (first | (with_reducible first | exact HB.out | apply below_alloc | apply pw_below_drewN | apply below_drew1 | refine below_set ?_ GE159.out) | exact HB.out))); (case aF => exact (fun k_ hk => ⟨Kd.fresh' (Kd.R_lt (by (with_reducible repeat (first | apply Kd.R_alloc | apply Kd.R_drewN | apply Kd.R_drew)); exact HO165.out)) k_ hk, Kd.fresh' (Kd.R_lt (by (with_reducible repeat (first | apply Kd.R_alloc | apply Kd.R_drewN | apply Kd.R_drew)); exact HO171.out)) k_ hk⟩)); (case aO => exact (by (with_reducible repeat (first | apply Kd.R_alloc | apply Kd.R_drewN | apply Kd.R_drew)); exact HO168.out)); (case aS => exact (below_size (by repeat (first | (with_reducible first | exact HB.out | apply below_alloc | apply pw_below_drewN | apply below_drew1 | refine below_set ?_ GE159.out) | exact HB.out)))); (case aL => have := LMc8.out; omega); intro v173 w19 ho hb hg hat; rw [← Ny172.out] at ho; have n0_ := Aside0.mk (blk_grown (g := gb159) (o := .cells #[.bool a0_0, .bool a0_1, .bool true, .bool true, .int .u32 a0_4, .int .u32 a0_5, .int .i64 a0_6] 24 (0, 0)) (by (with_reducible repeat (first | refine blk_drewN ?_ _ | refine blk_drew ?_ | refine blk_alloc ?_ _)); exact BK159.out) hg (Kd.R_ne HO168.out BK159.out (by decide))); have n1_ := Aside0.mk (Kd.R_after (ok := (fun k_ => some k_ ≠ (.slice Ao20 t169.length co20 : Value).ownBlock)) (by (with_reducible repeat (first | apply Kd.R_alloc | apply Kd.R_drewN | apply Kd.R_drew)); exact Kd.R_mono HO165.out (fun _ hk => ⟨hk.2, hk.1.2⟩)) hg hat); have n2_ := Aside0.mk (Kd.R_after (ok := (fun k_ => some k_ ≠ (.slice Ao16 y163.length co16 : Value).ownBlock)) (by (with_reducible repeat (first | apply Kd.R_alloc | apply Kd.R_drewN | apply Kd.R_drew)); exact Kd.R_mono HO171.out (fun _ hk => ⟨hk.1.2, hk.2⟩)) hg hat); have n3_ := Aside0.mk (hb); have n4_ := Aside0.mk (ho); clear BK159; clear HO165; clear HO171; clear HB; clear HO168; have BK159 := n0_; have HO165 := n1_; have HO171 := n2_; have HB := n3_; have HO174 := n4_; clear n0_ n1_ n2_ n3_ n4_; clear ho hb hg hat))
            go_ret
            exact ⟨_, by first | rfl | (simp [errW_none, errW_some] <;> rfl) | (simp [*, errW_none, errW_some] <;> rfl), by (with_reducible repeat (first | apply Kd.R_alloc | apply Kd.R_drewN | apply Kd.R_drew)); exact Kd.R_mono HO174.out (fun _ hk => trivial), by repeat (first | (with_reducible first | exact HB.out | apply below_alloc | apply pw_below_drewN | apply below_drew1 | refine below_set ?_ GE159.out) | exact HB.out)⟩
          · rw [if_neg c8] at H
            exact absurd H (by simp)
        · replace c6 := Bool.eq_false_iff.mpr c6
          subst c6
          have H1 : ((marlineref09_Put.f a1 false).bind fun t175 => (if y166.length + t175.length < 140737488355328 then (some (y166 ++ t175)) else (none))) = some r := by rw [if_neg (show ¬ (false = true) by decide)] at H; exact H
          clear H
          have H := H1
          clear H1
          replace H := Option.bind_eq_some_iff.mp H
          obtain ⟨t175, A210, H⟩ := H
          replace H : (if y166.length + t175.length < 140737488355328 then (some (y166 ++ t175)) else (none)) = some r := H
          have A21 := Aside0.mk A210
          clear A210
          by_cases c22 : y166.length + t175.length < 140737488355328
          · rw [if_pos c22] at H
            have LMc22 := Aside0.mk c22
            clear c22
            obtain ⟨y178, hy178⟩ : ∃ y_ : List Int, y_ = (y166 ++ t175) := ⟨_, rfl⟩
            replace H : (some y178) = some r := by first | (rw [hy178]; with_reducible exact H) | (have H2_ := (Option.bind_some _ _).symm.trans H; rw [hy178]; with_reducible exact H2_) | (have H2_ := (Option.bind_some _ _).symm.trans H; with_reducible exact H2_) | with_reducible exact H | (rw [hy178]; exact H) | exact H
            have Ny178 := Aside0.mk hy178
            clear hy178
            obtain rfl := Option.some.inj H
            go_enter Tryd.func33, Tryd.ntmps33
            go_wp2_with (first | ((with_reducible refine gate_dst (N := 2) rfl ?_); refine box_event ?hg (N := 2) ?hd (cs := #[.bool a0_0, .bool a0_1, .bool true, .bool false, .int .u32 a0_4, .int .u32 a0_5, .int .i64 a0_6]) (t := 24) ?hr ?_; (case hd => rfl); (case hg => rfl); (case hr => first | (go_simp; done) | (go_simp; rfl)); intro gb159 hg w23 hbox hb; have n0_ := Aside0.mk (below_step (by repeat (first | (with_reducible first | exact HB.out | apply below_alloc | apply pw_below_drewN | apply below_drew1) | exact HB.out)) hb); have n1_ := Aside0.mk (hbox); have n2_ := Aside0.mk ((by rw [hg]; exact (below_size (by repeat (first | (with_reducible first | exact HB.out | apply below_alloc | apply pw_below_drewN | apply below_drew1) | exact HB.out))) : w.heap.size ≤ gb159)); have n3_ := Aside0.mk ((by rw [hg]; exact (below_size (by repeat (first | (with_reducible first | exact HB.out | apply below_alloc | apply pw_below_drewN | apply below_drew1) | exact HB.out))) : w.heap.size ≤ gb159)); clear HB; have HB := n0_; have BK159 := n1_; have GW159 := n2_; have GE159 := n3_; clear n0_ n1_ n2_ n3_; clear hb hbox hg) | ((with_reducible refine gate_dst (N := 6) rfl ?_); refine Kd.R_lit (Kd.int .u8) _ 5 ?hg (N := 6) ?hd (xs := ([] : List Int)) (inner := []) (ok := fun _ => True) (okp := fun _ => True) ?hr ?hp (fun _ hk => hk) trivial (Below.refl _ _) (Nat.le_refl _) (by simp) ?_; (case hd => rfl); (case hg => rfl); (case hr => first | (go_simp; done) | (go_simp; rfl)); (case hp => exact (Reps.none _ _)); intro v161 w24 ho25 hb hg_ hnew_; clear hg_ hnew_; (first | rw [← Ny160.out] at ho25 | (simp only [Int.reduceToNat] at ho25; rw [← Ny160.out] at ho25)); have n0_ := Aside0.mk (Kd.R_lower ho25 (below_size (by repeat (first | (with_reducible first | exact HB.out | apply below_alloc | apply pw_below_drewN | apply below_drew1 | refine below_set ?_ GE159.out) | exact HB.out)))); have n1_ := Aside0.mk (blk_below (g := gb159) (o := .cells #[.bool a0_0, .bool a0_1, .bool true, .bool false, .int .u32 a0_4, .int .u32 a0_5, .int .i64 a0_6] 24 (0, 0)) (by (with_reducible repeat (first | refine blk_drewN ?_ _ | refine blk_drew ?_ | refine blk_alloc ?_ _)); exact BK159.out) hb); have n2_ := Aside0.mk (below_step (by repeat (first | (with_reducible first | exact HB.out | apply below_alloc | apply pw_below_drewN | apply below_drew1 | refine below_set ?_ GE159.out) | exact HB.out)) hb); clear BK159; clear HB; have HO162 := n0_; have BK159 := n1_; have HB := n2_; clear n0_ n1_ n2_; clear hb ho25; have hcz26_0 : w24.cell? ⟨gb159, 0, none⟩ = some (.bool a0_0) := (blk_cell BK159.out 0).trans rfl; have hcz26_1 : w24.cell? ⟨gb159, 1, none⟩ = some (.bool a0_1) := (blk_cell BK159.out 1).trans rfl; have hcz26_2 : w24.cell? ⟨gb159, 2, none⟩ = some (.bool true) := (blk_cell BK159.out 2).trans rfl; have hcz26_3 : w24.cell? ⟨gb159, 3, none⟩ = some (.bool false) := (blk_cell BK159.out 3).trans rfl; have hcz26_4 : w24.cell? ⟨gb159, 4, none⟩ = some (.int .u32 a0_4) := (blk_cell BK159.out 4).trans rfl; have hcz26_5 : w24.cell? ⟨gb159, 5, none⟩ = some (.int .u32 a0_5) := (blk_cell BK159.out 5).trans rfl; have hcz26_6 : w24.cell? ⟨gb159, 6, none⟩ = some (.int .i64 a0_6) := (blk_cell BK159.out 6).trans rfl; have hfz26_0 := blk_frozen BK159.out 0; have hfz26_1 := blk_frozen BK159.out 1; have hfz26_2 := blk_frozen BK159.out 2; have hfz26_3 := blk_frozen BK159.out 3; have hfz26_4 := blk_frozen BK159.out 4; have hfz26_5 := blk_frozen BK159.out 5; have hfz26_6 := blk_frozen BK159.out 6) | ((with_reducible refine gate_dst (N := 15) rfl ?_); refine Kd.R_lit (Kd.int .u8) _ 5 ?hg (N := 15) ?hd (xs := ([255, 3] : List Int)) (inner := [.int .u8 255, .int .u8 3]) (ok := fun _ => True) (okp := fun _ => True) ?hr ?hp (fun _ hk => hk) trivial (Below.refl _ _) (Nat.le_refl _) (by simp) ?_; (case hd => rfl); (case hg => rfl); (case hr => first | (go_simp; done) | (go_simp; rfl)); (case hp => exact (Reps.one (show Kd.M (Kd.int .u8) _ _ _ 255 [.int .u8 255] from rfl) (Reps.one (show Kd.M (Kd.int .u8) _ _ _ 3 [.int .u8 3] from rfl) (Reps.none _ _)))); intro v164 w27 ho28 hb hg_ hnew_; clear hg_ hnew_; (first | rw [← Ny163.out] at ho28 | (simp only [Int.reduceToNat] at ho28; rw [← Ny163.out] at ho28)); have n0_ := Aside0.mk (Kd.R_elder' (by (with_reducible repeat (first | apply Kd.R_alloc | apply Kd.R_drewN | apply Kd.R_drew)); exact HO162.out) (Kd.R_base ho28) hb); have n1_ := Aside0.mk (Kd.R_lower (Kd.R_new' ho28 (Kd.R_lt (by (with_reducible repeat (first | apply Kd.R_alloc | apply Kd.R_drewN | apply Kd.R_drew)); exact HO162.out))) (below_size (by repeat (first | (with_reducible first | exact HB.out | apply below_alloc | apply pw_below_drewN | apply below_drew1 | refine below_set ?_ GE159.out) | exact HB.out)))); have n2_ := Aside0.mk (blk_below (g := gb159) (o := .cells #[.bool a0_0, .bool a0_1, .bool true, .bool false, .int .u32 a0_4, .int .u32 a0_5, .int .i64 a0_6] 24 (0, 0)) (by (with_reducible repeat (first | refine blk_drewN ?_ _ | refine blk_drew ?_ | refine blk_alloc ?_ _)); exact BK159.out) hb); have n3_ := Aside0.mk (below_step (by repeat (first | (with_reducible first | exact HB.out | apply below_alloc | apply pw_below_drewN | apply below_drew1 | refine below_set ?_ GE159.out) | exact HB.out)) hb); clear HO162; clear BK159; clear HB; have HO162 := n0_; have HO165 := n1_; have BK159 := n2_; have HB := n3_; clear n0_ n1_ n2_ n3_; clear hb ho28; obtain ⟨Ao30, co30, eo30⟩ := Kd.R_slice HO165.out; subst eo30) | ((with_reducible refine gate_builtin (b := .append) (xs := #[.tmp 14, .tmp 15]) rfl ?_); at_builtin; refine Kd.R_append_rows (Kd.int .u8) (w0 := w) w.heap.size rfl (.tmp 14) (.tmp 15) 35 5 (.int .u8 0) 1 rfl Tryd.underlying35 info5 rfl (by decide) (by omega) v161 y160 y163 _ _ _ (fun k_ => some k_ ≠ (.slice Ao30 y163.length co30 : Value).ownBlock) (fun _ => False) rfl rfl ?aO ?aR (fun _ _ h => h) (fun _ h => h.elim) ?aF ?aB ?aS ?aL ?_; (case aR => repeat (first | exact (Kd.R_reads' HO165.out).2.2 | (with_reducible refine Kd.C_alloc ?_ _) | (with_reducible refine Kd.C_drewN ?_ _) | (with_reducible refine Kd.C_drew ?_))); (case aB => exact (by repeat (first | (with_reducible first | exact HB.out | apply below_alloc | apply pw_below_drewN | apply below_drew1 | refine below_set ?_ GE159.out) | exact HB.out))); (case aF => exact (fun k_ hk => Kd.fresh' (Kd.R_lt (by (with_reducible repeat (first | apply Kd.R_alloc | apply Kd.R_drewN | apply Kd.R_drew)); exact HO165.out)) k_ hk)); (case aO => exact (by (with_reducible repeat (first | apply Kd.R_alloc | apply Kd.R_drewN | apply Kd.R_drew)); exact Kd.R_mono HO162.out (fun _ hk => hk.2))); (case aS => exact (below_size (by repeat (first | (with_reducible first | exact HB.out | apply below_alloc | apply pw_below_drewN | apply below_drew1 | refine below_set ?_ GE159.out) | exact HB.out)))); (case aL => have := LMc5.out; omega); intro v167 w29 ho hb hg hat; rw [← Ny166.out] at ho; have n0_ := Aside0.mk (blk_grown (g := gb159) (o := .cells #[.bool a0_0, .bool a0_1, .bool true, .bool false, .int .u32 a0_4, .int .u32 a0_5, .int .i64 a0_6] 24 (0, 0)) (by (with_reducible repeat (first | refine blk_drewN ?_ _ | refine blk_drew ?_ | refine blk_alloc ?_ _)); exact BK159.out) hg (Kd.R_ne HO162.out BK159.out (by decide))); have n1_ := Aside0.mk (Kd.R_after (ok := (fun _ => True)) (by (with_reducible repeat (first | apply Kd.R_alloc | apply Kd.R_drewN | apply Kd.R_drew)); exact HO165.out) hg hat); have n2_ := Aside0.mk (hb); have n3_ := Aside0.mk (ho); clear BK159; clear HO165; clear HB; clear HO162; have BK159 := n0_; have HO165 := n1_; have HB := n2_; have HO168 := n3_; clear n0_ n1_ n2_ n3_; clear ho hb hg hat; have hcz31_0 : w29.cell? ⟨gb159, 0, none⟩ = some (.bool a0_0) := (blk_cell BK159.out 0).trans rfl; have hcz31_1 : w29.cell? ⟨gb159, 1, none⟩ = some (.bool a0_1) := (blk_cell BK159.out 1).trans rfl; have hcz31_2 : w29.cell? ⟨gb159, 2, none⟩ = some (.bool true) := (blk_cell BK159.out 2).trans rfl; have hcz31_3 : w29.cell? ⟨gb159, 3, none⟩ = some (.bool false) := (blk_cell BK159.out 3).trans rfl; have hcz31_4 : w29.cell? ⟨gb159, 4, none⟩ = some (.int .u32 a0_4) := (blk_cell BK159.out 4).trans rfl; have hcz31_5 : w29.cell? ⟨gb159, 5, none⟩ = some (.int .u32 a0_5) := (blk_cell BK159.out 5).trans rfl; have hcz31_6 : w29.cell? ⟨gb159, 6, none⟩ = some (.int .i64 a0_6) := (blk_cell BK159.out 6).trans rfl; have hfz31_0 := blk_frozen BK159.out 0; have hfz31_1 := blk_frozen BK159.out 1; have hfz31_2 := blk_frozen BK159.out 2; have hfz31_3 := blk_frozen BK159.out 3; have hfz31_4 := blk_frozen BK159.out 4; have hfz31_5 := blk_frozen BK159.out 5; have hfz31_6 := blk_frozen BK159.out 6) | ((with_reducible refine gate_callee (f := 61) rfl ?_); refine goesL_ (some 25) rfl rfl Tryd.func61 (by kernel_rfl) rfl #[.int .i64 a1, .bool false] rfl (by (try simp only [List.map_toArray, List.map_cons, List.map_nil]); first | done | rfl | (simp only [List.length_drop, List.length_take]; rfl)) ?_; (with_reducible refine (marlineref09_Put.calls a1 false t175 _ A21.out).mono ?_); rintro e w32 ⟨v176, rfl, ho0, hb⟩; refine ⟨_, rfl, ?_⟩; have n0_ := Aside0.mk (Kd.R_elder' (by (with_reducible repeat (first | apply Kd.R_alloc | apply Kd.R_drewN | apply Kd.R_drew)); exact HO165.out) (Kd.R_base ho0) hb); have n1_ := Aside0.mk (Kd.R_elder' (by (with_reducible repeat (first | apply Kd.R_alloc | apply Kd.R_drewN | apply Kd.R_drew)); exact HO168.out) (Kd.R_base ho0) hb); have n2_ := Aside0.mk (Kd.R_lower (Kd.R_new' (Kd.R_new' ho0 (Kd.R_lt (by (with_reducible repeat (first | apply Kd.R_alloc | apply Kd.R_drewN | apply Kd.R_drew)); exact HO165.out))) (Kd.R_lt (by (with_reducible repeat (first | apply Kd.R_alloc | apply Kd.R_drewN | apply Kd.R_drew)); exact HO168.out))) (below_size (by repeat (first | (with_reducible first | exact HB.out | apply below_alloc | apply pw_below_drewN | apply below_drew1 | refine below_set ?_ GE159.out) | exact HB.out)))); have n3_ := Aside0.mk (blk_below (g := gb159) (o := .cells #[.bool a0_0, .bool a0_1, .bool true, .bool false, .int .u32 a0_4, .int .u32 a0_5, .int .i64 a0_6] 24 (0, 0)) (by (with_reducible repeat (first | refine blk_drewN ?_ _ | refine blk_drew ?_ | refine blk_alloc ?_ _)); exact BK159.out) hb); have n4_ := Aside0.mk (below_step (by repeat (first | (with_reducible first | exact HB.out | apply below_alloc | apply pw_below_drewN | apply below_drew1 | refine below_set ?_ GE159.out) | exact HB.out)) hb); clear HO165; clear HO168; clear BK159; clear HB; have HO165 := n0_; have HO168 := n1_; have HO177 := n2_; have BK159 := n3_; have HB := n4_; clear n0_ n1_ n2_ n3_ n4_; (try clear hb); (try clear hb2); (try clear hk); (try clear hi); (try clear ho0); obtain ⟨Ao34, co34, eo34⟩ := Kd.R_slice HO177.out; subst eo34) | ((with_reducible refine gate_builtin (b := .append) (xs := #[.tmp 17, .tmp 25]) rfl ?_); at_builtin; refine Kd.R_append_rows (Kd.int .u8) (w0 := w) w.heap.size rfl (.tmp 17) (.tmp 25) 35 5 (.int .u8 0) 1 rfl Tryd.underlying35 info5 rfl (by decide) (by omega) v167 y166 t175 _ _ _ (fun k_ => some k_ ≠ (.slice Ao30 y163.length co30 : Value).ownBlock ∧ some k_ ≠ (.slice Ao34 t175.length co34 : Value).ownBlock) (fun _ => False) rfl rfl ?aO ?aR (fun _ _ h => h) (fun _ h => h.elim) ?aF ?aB ?aS ?aL ?_; (case aR => repeat (first | exact (Kd.R_reads' HO177.out).2.2 | (with_reducible refine Kd.C_alloc ?_ _) | (with_reducible refine Kd.C_drewN ?_ _) | (with_reducible refine Kd.C_drew ?_))); (case aB => exact (by repeat (first | (with_reducible first | exact HB.out | apply below_alloc | apply pw_below_drewN | apply below_drew1 | refine below_set ?_ GE159.out) | exact HB.out))); (case aF => exact (fun k_ hk => ⟨Kd.fresh' (Kd.R_lt (by (with_reducible repeat (first | apply Kd.R_alloc | apply Kd.R_drewN | apply Kd.R_drew)); exact HO165.out)) k_ hk, Kd.fresh' (Kd.R_lt (by (with_reducible repeat (first | apply Kd.R_alloc | apply Kd.R_drewN | apply Kd.R_drew)); exact HO177.out)) k_ hk⟩)); (case aO => exact (by (with_reducible repeat (first | apply Kd.R_alloc | apply Kd.R_drewN | apply Kd.R_drew)); exact HO168.out)); (case aS => exact (below_size (by repeat (first | (with_reducible first | exact HB.out | apply below_alloc | apply pw_below_drewN | apply below_drew1 | refine below_set ?_ GE159.out) | exact HB.out)))); (case aL => have := LMc22.out; omega); intro v179 w33 ho hb hg hat; rw [← Ny178.out] at ho; have n0_ := Aside0.mk (blk_grown (g := gb159) (o := .cells #[.bool a0_0, .bool a0_1, .bool true, .bool false, .int .u32 a0_4, .int .u32 a0_5, .int .i64 a0_6] 24 (0, 0)) (by (with_reducible repeat (first | refine blk_drewN ?_ _ | refine blk_drew ?_ | refine blk_alloc ?_ _)); exact BK159.out) hg (Kd.R_ne HO168.out BK159.out (by decide))); have n1_ := Aside0.mk (Kd.R_after (ok := (fun k_ => some k_ ≠ (.slice Ao34 t175.length co34 : Value).ownBlock)) (by (with_reducible repeat (first | apply Kd.R_alloc | apply Kd.R_drewN | apply Kd.R_drew)); exact Kd.R_mono HO165.out (fun _ hk => ⟨hk.2, hk.1.2⟩)) hg hat); have n2_ := Aside0.mk (Kd.R_after (ok := (fun k_ => some k_ ≠ (.slice Ao30 y163.length co30 : Value).ownBlock)) (by (with_reducible repeat (first | apply Kd.R_alloc | apply Kd.R_drewN | apply Kd.R_drew)); exact Kd.R_mono HO177.out (fun _ hk => ⟨hk.1.2, hk.2⟩)) hg hat); have n3_ := Aside0.mk (hb); have n4_ := Aside0.mk (ho); clear BK159; clear HO165; clear HO177; clear HB; clear HO168; have BK159 := n0_; have HO165 := n1_; have HO177 := n2_; have HB := n3_; have HO180 := n4_; clear n0_ n1_ n2_ n3_ n4_; clear ho hb hg hat))
            go_ret
            exact ⟨_, by first | rfl | (simp [errW_none, errW_some] <;> rfl) | (simp [*, errW_none, errW_some] <;> rfl), by (with_reducible repeat (first | apply Kd.R_alloc | apply Kd.R_drewN | apply Kd.R_drew)); exact Kd.R_mono HO180.out (fun _ hk => trivial), by repeat (first | (with_reducible first | exact HB.out | apply below_alloc | apply pw_below_drewN | apply below_drew1 | refine below_set ?_ GE159.out) | exact HB.out)⟩
          · rw [if_neg c22] at H
            exact absurd H (by simp)
      · rw [if_neg c5] at H
        exact absurd H (by simp)
    · rw [if_neg c4] at H
      have c4b0 : (a1 == 49185) = false := beq_eq_false_iff_ne.mpr c4
      have c4b1 : (a1 != 49185) = true := bne_iff_ne.mpr c4
      (try rw [c4b1] at H)
      by_cases c35 : a0_3 = true
      · subst c35
        have H1 : ((marlineref09_Put.f a1 true).bind fun t181 => (if y160.length + t181.length < 140737488355328 then (some (y160 ++ t181)) else (none))) = some r := by rw [if_pos rfl] at H; exact H
        clear H
        have H := H1
        clear H1
        replace H := Option.bind_eq_some_iff.mp H
        obtain ⟨t181, A360, H⟩ := H
        replace H : (if y160.length + t181.length < 140737488355328 then (some (y160 ++ t181)) else (none)) = some r := H
        have A36 := Aside0.mk A360
        clear A360
        by_cases c37 : y160.length + t181.length < 140737488355328
        · rw [if_pos c37] at H
          have LMc37 := Aside0.mk c37
          clear c37
          obtain ⟨y184, hy184⟩ : ∃ y_ : List Int, y_ = (y160 ++ t181) := ⟨_, rfl⟩
          replace H : (some y184) = some r := by first | (rw [hy184]; with_reducible exact H) | (have H2_ := (Option.bind_some _ _).symm.trans H; rw [hy184]; with_reducible exact H2_) | (have H2_ := (Option.bind_some _ _).symm.trans H; with_reducible exact H2_) | with_reducible exact H | (rw [hy184]; exact H) | exact H
          have Ny184 := Aside0.mk hy184
          clear hy184
          obtain rfl := Option.some.inj H
          go_enter Tryd.func33, Tryd.ntmps33
          go_wp2_with (first | ((with_reducible refine gate_dst (N := 2) rfl ?_); refine box_event ?hg (N := 2) ?hd (cs := #[.bool a0_0, .bool a0_1, .bool true, .bool true, .int .u32 a0_4, .int .u32 a0_5, .int .i64 a0_6]) (t := 24) ?hr ?_; (case hd => rfl); (case hg => rfl); (case hr => first | (go_simp; done) | (go_simp; rfl)); intro gb159 hg w38 hbox hb; have n0_ := Aside0.mk (below_step (by repeat (first | (with_reducible first | exact HB.out | apply below_alloc | apply pw_below_drewN | apply below_drew1) | exact HB.out)) hb); have n1_ := Aside0.mk (hbox); have n2_ := Aside0.mk ((by rw [hg]; exact (below_size (by repeat (first | (with_reducible first | exact HB.out | apply below_alloc | apply pw_below_drewN | apply below_drew1) | exact HB.out))) : w.heap.size ≤ gb159)); have n3_ := Aside0.mk ((by rw [hg]; exact (below_size (by repeat (first | (with_reducible first | exact HB.out | apply below_alloc | apply pw_below_drewN | apply below_drew1) | exact HB.out))) : w.heap.size ≤ gb159)); clear HB; have HB := n0_; have BK159 := n1_; have GW159 := n2_; have GE159 := n3_; clear n0_ n1_ n2_ n3_; clear hb hbox hg) | ((with_reducible refine gate_dst (N := 6) rfl ?_); refine Kd.R_lit (Kd.int .u8) _ 5 ?hg (N := 6) ?hd (xs := ([] : List Int)) (inner := []) (ok := fun _ => True) (okp := fun _ => True) ?hr ?hp (fun _ hk => hk) trivial (Below.refl _ _) (Nat.le_refl _) (by simp) ?_; (case hd => rfl); (case hg => rfl); (case hr => first | (go_simp; done) | (go_simp; rfl)); (case hp => exact (Reps.none _ _)); intro v161 w39 ho40 hb hg_ hnew_; clear hg_ hnew_; (first | rw [← Ny160.out] at ho40 | (simp only [Int.reduceToNat] at ho40; rw [← Ny160.out] at ho40)); have n0_ := Aside0.mk (Kd.R_lower ho40 (below_size (by repeat (first | (with_reducible first | exact HB.out | apply below_alloc | apply pw_below_drewN | apply below_drew1 | refine below_set ?_ GE159.out) | exact HB.out)))); have n1_ := Aside0.mk (blk_below (g := gb159) (o := .cells #[.bool a0_0, .bool a0_1, .bool true, .bool true, .int .u32 a0_4, .int .u32 a0_5, .int .i64 a0_6] 24 (0, 0)) (by (with_reducible repeat (first | refine blk_drewN ?_ _ | refine blk_drew ?_ | refine blk_alloc ?_ _)); exact BK159.out) hb); have n2_ := Aside0.mk (below_step (by repeat (first | (with_reducible first | exact HB.out | apply below_alloc | apply pw_below_drewN | apply below_drew1 | refine below_set ?_ GE159.out) | exact HB.out)) hb); clear BK159; clear HB; have HO162 := n0_; have BK159 := n1_; have HB := n2_; clear n0_ n1_ n2_; clear hb ho40; have hcz41_0 : w39.cell? ⟨gb159, 0, none⟩ = some (.bool a0_0) := (blk_cell BK159.out 0).trans rfl; have hcz41_1 : w39.cell? ⟨gb159, 1, none⟩ = some (.bool a0_1) := (blk_cell BK159.out 1).trans rfl; have hcz41_2 : w39.cell? ⟨gb159, 2, none⟩ = some (.bool true) := (blk_cell BK159.out 2).trans rfl; have hcz41_3 : w39.cell? ⟨gb159, 3, none⟩ = some (.bool true) := (blk_cell BK159.out 3).trans rfl; have hcz41_4 : w39.cell? ⟨gb159, 4, none⟩ = some (.int .u32 a0_4) := (blk_cell BK159.out 4).trans rfl; have hcz41_5 : w39.cell? ⟨gb159, 5, none⟩ = some (.int .u32 a0_5) := (blk_cell BK159.out 5).trans rfl; have hcz41_6 : w39.cell? ⟨gb159, 6, none⟩ = some (.int .i64 a0_6) := (blk_cell BK159.out 6).trans rfl; have hfz41_0 := blk_frozen BK159.out 0; have hfz41_1 := blk_frozen BK159.out 1; have hfz41_2 := blk_frozen BK159.out 2; have hfz41_3 := blk_frozen BK159.out 3; have hfz41_4 := blk_frozen BK159.out 4; have hfz41_5 := blk_frozen BK159.out 5; have hfz41_6 := blk_frozen BK159.out 6) | ((with_reducible refine gate_callee (f := 61) rfl ?_); refine goesL_ (some 25) rfl rfl Tryd.func61 (by kernel_rfl) rfl #[.int .i64 a1, .bool true] rfl (by (try simp only [List.map_toArray, List.map_cons, List.map_nil]); first | done | rfl | (simp only [List.length_drop, List.length_take]; rfl)) ?_; (with_reducible refine (marlineref09_Put.calls a1 true t181 _ A36.out).mono ?_); rintro e w42 ⟨v182, rfl, ho0, hb⟩; refine ⟨_, rfl, ?_⟩; have n0_ := Aside0.mk (Kd.R_elder' (by (with_reducible repeat (first | apply Kd.R_alloc | apply Kd.R_drewN | apply Kd.R_drew)); exact HO162.out) (Kd.R_base ho0) hb); have n1_ := Aside0.mk (Kd.R_lower (Kd.R_new' ho0 (Kd.R_lt (by (with_reducible repeat (first | apply Kd.R_alloc | apply Kd.R_drewN | apply Kd.R_drew)); exact HO162.out))) (below_size (by repeat (first | (with_reducible first | exact HB.out | apply below_alloc | apply pw_below_drewN | apply below_drew1 | refine below_set ?_ GE159.out) | exact HB.out)))); have n2_ := Aside0.mk (blk_below (g := gb159) (o := .cells #[.bool a0_0, .bool a0_1, .bool true, .bool true, .int .u32 a0_4, .int .u32 a0_5, .int .i64 a0_6] 24 (0, 0)) (by (with_reducible repeat (first | refine blk_drewN ?_ _ | refine blk_drew ?_ | refine blk_alloc ?_ _)); exact BK159.out) hb); have n3_ := Aside0.mk (below_step (by repeat (first | (with_reducible first | exact HB.out | apply below_alloc | apply pw_below_drewN | apply below_drew1 | refine below_set ?_ GE159.out) | exact HB.out)) hb); clear HO162; clear BK159; clear HB; have HO162 := n0_; have HO183 := n1_; have BK159 := n2_; have HB := n3_; clear n0_ n1_ n2_ n3_; (try clear hb); (try clear hb2); (try clear hk); (try clear hi); (try clear ho0); obtain ⟨Ao44, co44, eo44⟩ := Kd.R_slice HO183.out; subst eo44) | ((with_reducible refine gate_builtin (b := .append) (xs := #[.tmp 17, .tmp 25]) rfl ?_); at_builtin; refine Kd.R_append_rows (Kd.int .u8) (w0 := w) w.heap.size rfl (.tmp 17) (.tmp 25) 35 5 (.int .u8 0) 1 rfl Tryd.underlying35 info5 rfl (by decide) (by omega) v161 y160 t181 _ _ _ (fun k_ => some k_ ≠ (.slice Ao44 t181.length co44 : Value).ownBlock) (fun _ => False) rfl rfl ?aO ?aR (fun _ _ h => h) (fun _ h => h.elim) ?aF ?aB ?aS ?aL ?_; (case aR => repeat (first | exact (Kd.R_reads' HO183.out).2.2 | (with_reducible refine Kd.C_alloc ?_ _) | (with_reducible refine Kd.C_drewN ?_ _) | (with_reducible refine Kd.C_drew ?_))); (case aB => exact (by repeat (first | (with_reducible first | exact HB.out | apply below_alloc | apply pw_below_drewN | apply below_drew1 | refine below_set ?_ GE159.out) | exact HB.out))); (case aF => exact (fun k_ hk => Kd.fresh' (Kd.R_lt (by (with_reducible repeat (first | apply Kd.R_alloc | apply Kd.R_drewN | apply Kd.R_drew)); exact HO183.out)) k_ hk)); (case aO => exact (by (with_reducible repeat (first | apply Kd.R_alloc | apply Kd.R_drewN | apply Kd.R_drew)); exact Kd.R_mono HO162.out (fun _ hk => hk.2))); (case aS => exact (below_size (by repeat (first | (with_reducible first | exact HB.out | apply below_alloc | apply pw_below_drewN | apply below_drew1 | refine below_set ?_ GE159.out) | exact HB.out)))); (case aL => have := LMc37.out; omega); intro v185 w43 ho hb hg hat; rw [← Ny184.out] at ho; have n0_ := Aside0.mk (blk_grown (g := gb159) (o := .cells #[.bool a0_0, .bool a0_1, .bool true, .bool true, .int .u32 a0_4, .int .u32 a0_5, .int .i64 a0_6] 24 (0, 0)) (by (with_reducible repeat (first | refine blk_drewN ?_ _ | refine blk_drew ?_ | refine blk_alloc ?_ _)); exact BK159.out) hg (Kd.R_ne HO162.out BK159.out (by decide))); have n1_ := Aside0.mk (Kd.R_after (ok := (fun _ => True)) (by (with_reducible repeat (first | apply Kd.R_alloc | apply Kd.R_drewN | apply Kd.R_drew)); exact HO183.out) hg hat); have n2_ := Aside0.mk (hb); have n3_ := Aside0.mk (ho); clear BK159; clear HO183; clear HB; clear HO162; have BK159 := n0_; have HO183 := n1_; have HB := n2_; have HO186 := n3_; clear n0_ n1_ n2_ n3_; clear ho hb hg hat))
          go_ret
          exact ⟨_, by first | rfl | (simp [errW_none, errW_some] <;> rfl) | (simp [*, errW_none, errW_some] <;> rfl), by (with_reducible repeat (first | apply Kd.R_alloc | apply Kd.R_drewN | apply Kd.R_drew)); exact Kd.R_mono HO186.out (fun _ hk => trivial), by repeat (first | (with_reducible first | exact HB.out | apply below_alloc | apply pw_below_drewN | apply below_drew1 | refine below_set ?_ GE159.out) | exact HB.out)⟩
        · rw [if_neg c37] at H
          exact absurd H (by simp)
      · replace c35 := Bool.eq_false_iff.mpr c35
        subst c35
        have H1 : ((marlineref09_Put.f a1 false).bind fun t187 => (if y160.length + t187.length < 140737488355328 then (some (y160 ++ t187)) else (none))) = some r := by rw [if_neg (show ¬ (false = true) by decide)] at H; exact H
        clear H
        have H := H1
        clear H1
        replace H := Option.bind_eq_some_iff.mp H
        obtain ⟨t187, A450, H⟩ := H
        replace H : (if y160.length + t187.length < 140737488355328 then (some (y160 ++ t187)) else (none)) = some r := H
        have A45 := Aside0.mk A450
        clear A450
        by_cases c46 : y160.length + t187.length < 140737488355328
        · rw [if_pos c46] at H
          have LMc46 := Aside0.mk c46
          clear c46
          obtain ⟨y190, hy190⟩ : ∃ y_ : List Int, y_ = (y160 ++ t187) := ⟨_, rfl⟩
          replace H : (some y190) = some r := by first | (rw [hy190]; with_reducible exact H) | (have H2_ := (Option.bind_some _ _).symm.trans H; rw [hy190]; with_reducible exact H2_) | (have H2_ := (Option.bind_some _ _).symm.trans H; with_reducible exact H2_) | with_reducible exact H | (rw [hy190]; exact H) | exact H
          have Ny190 := Aside0.mk hy190
          clear hy190
          obtain rfl := Option.some.inj H
          go_enter Tryd.func33, Tryd.ntmps33
          go_wp2_with (first | ((with_reducible refine gate_dst (N := 2) rfl ?_); refine box_event ?hg (N := 2) ?hd (cs := #[.bool a0_0, .bool a0_1, .bool true, .bool false, .int .u32 a0_4, .int .u32 a0_5, .int .i64 a0_6]) (t := 24) ?hr ?_; (case hd => rfl); (case hg => rfl); (case hr => first | (go_simp; done) | (go_simp; rfl)); intro gb159 hg w47 hbox hb; have n0_ := Aside0.mk (below_step (by repeat (first | (with_reducible first | exact HB.out | apply below_alloc | apply pw_below_drewN | apply below_drew1) | exact HB.out)) hb); have n1_ := Aside0.mk (hbox); have n2_ := Aside0.mk ((by rw [hg]; exact (below_size (by repeat (first | (with_reducible first | exact HB.out | apply below_alloc | apply pw_below_drewN | apply below_drew1) | exact HB.out))) : w.heap.size ≤ gb159)); have n3_ := Aside0.mk ((by rw [hg]; exact (below_size (by repeat (first | (with_reducible first | exact HB.out | apply below_alloc | apply pw_below_drewN | apply below_drew1) | exact HB.out))) : w.heap.size ≤ gb159)); clear HB; have HB := n0_; have BK159 := n1_; have GW159 := n2_; have GE159 := n3_; clear n0_ n1_ n2_ n3_; clear hb hbox hg) | ((with_reducible refine gate_dst (N := 6) rfl ?_); refine Kd.R_lit (Kd.int .u8) _ 5 ?hg (N := 6) ?hd (xs := ([] : List Int)) (inner := []) (ok := fun _ => True) (okp := fun _ => True) ?hr ?hp (fun _ hk => hk) trivial (Below.refl _ _) (Nat.le_refl _) (by simp) ?_; (case hd => rfl); (case hg => rfl); (case hr => first | (go_simp; done) | (go_simp; rfl)); (case hp => exact (Reps.none _ _)); intro v161 w48 ho49 hb hg_ hnew_; clear hg_ hnew_; (first | rw [← Ny160.out] at ho49 | (simp only [Int.reduceToNat] at ho49; rw [← Ny160.out] at ho49)); have n0_ := Aside0.mk (Kd.R_lower ho49 (below_size (by repeat (first | (with_reducible first | exact HB.out | apply below_alloc | apply pw_below_drewN | apply below_drew1 | refine below_set ?_ GE159.out) | exact HB.out)))); have n1_ := Aside0.mk (blk_below (g := gb159) (o := .cells #[.bool a0_0, .bool a0_1, .bool true, .bool false, .int .u32 a0_4, .int .u32 a0_5, .int .i64 a0_6] 24 (0, 0)) (by (with_reducible repeat (first | refine blk_drewN ?_ _ | refine blk_drew ?_ | refine blk_alloc ?_ _)); exact BK159.out) hb); have n2_ := Aside0.mk (below_step (by repeat (first | (with_reducible first | exact HB.out | apply below_alloc | apply pw_below_drewN | apply below_drew1 | refine below_set ?_ GE159.out) | exact HB.out)) hb); clear BK159; clear HB; have HO162 := n0_; have BK159 := n1_; have HB := n2_; clear n0_ n1_ n2_; clear hb ho49; have hcz50_0 : w48.cell? ⟨gb159, 0, none⟩ = some (.bool a0_0) := (blk_cell BK159.out 0).trans rfl; have hcz50_1 : w48.cell? ⟨gb159, 1, none⟩ = some (.bool a0_1) := (blk_cell BK159.out 1).trans rfl; have hcz50_2 : w48.cell? ⟨gb159, 2, none⟩ = some (.bool true) := (blk_cell BK159.out 2).trans rfl; have hcz50_3 : w48.cell? ⟨gb159, 3, none⟩ = some (.bool false) := (blk_cell BK159.out 3).trans rfl; have hcz50_4 : w48.cell? ⟨gb159, 4, none⟩ = some (.int .u32 a0_4) := (blk_cell BK159.out 4).trans rfl; have hcz50_5 : w48.cell? ⟨gb159, 5, none⟩ = some (.int .u32 a0_5) := (blk_cell BK159.out 5).trans rfl; have hcz50_6 : w48.cell? ⟨gb159, 6, none⟩ = some (.int .i64 a0_6) := (blk_cell BK159.out 6).trans rfl; have hfz50_0 := blk_frozen BK159.out 0; have hfz50_1 := blk_frozen BK159.out 1; have hfz50_2 := blk_frozen BK159.out 2; have hfz50_3 := blk_frozen BK159.out 3; have hfz50_4 := blk_frozen BK159.out 4; have hfz50_5 := blk_frozen BK159.out 5; have hfz50_6 := blk_frozen BK159.out 6) | ((with_reducible refine gate_callee (f := 61) rfl ?_); refine goesL_ (some 25) rfl rfl Tryd.func61 (by kernel_rfl) rfl #[.int .i64 a1, .bool false] rfl (by (try simp only [List.map_toArray, List.map_cons, List.map_nil]); first | done | rfl | (simp only [List.length_drop, List.length_take]; rfl)) ?_; (with_reducible refine (marlineref09_Put.calls a1 false t187 _ A45.out).mono ?_); rintro e w51 ⟨v188, rfl, ho0, hb⟩; refine ⟨_, rfl, ?_⟩; have n0_ := Aside0.mk (Kd.R_elder' (by (with_reducible repeat (first | apply Kd.R_alloc | apply Kd.R_drewN | apply Kd.R_drew)); exact HO162.out) (Kd.R_base ho0) hb); have n1_ := Aside0.mk (Kd.R_lower (Kd.R_new' ho0 (Kd.R_lt (by (with_reducible repeat (first | apply Kd.R_alloc | apply Kd.R_drewN | apply Kd.R_drew)); exact HO162.out))) (below_size (by repeat (first | (with_reducible first | exact HB.out | apply below_alloc | apply pw_below_drewN | apply below_drew1 | refine below_set ?_ GE159.out) | exact HB.out)))); have n2_ := Aside0.mk (blk_below (g := gb159) (o := .cells #[.bool a0_0, .bool a0_1, .bool true, .bool false, .int .u32 a0_4, .int .u32 a0_5, .int .i64 a0_6] 24 (0, 0)) (by (with_reducible repeat (first | refine blk_drewN ?_ _ | refine blk_drew ?_ | refine blk_alloc ?_ _)); exact BK159.out) hb); have n3_ := Aside0.mk (below_step (by repeat (first | (with_reducible first | exact HB.out | apply below_alloc | apply pw_below_drewN | apply below_drew1 | refine below_set ?_ GE159.out) | exact HB.out)) hb); clear HO162; clear BK159; clear HB; have HO162 := n0_; have HO189 := n1_; have BK159 := n2_; have HB := n3_; clear n0_ n1_ n2_ n3_; (try clear hb); (try clear hb2); (try clear hk); (try clear hi); (try clear ho0); obtain ⟨Ao53, co53, eo53⟩ := Kd.R_slice HO189.out; subst eo53) | ((with_reducible refine gate_builtin (b := .append) (xs := #[.tmp 17, .tmp 25]) rfl ?_); at_builtin; refine Kd.R_append_rows (Kd.int .u8) (w0 := w) w.heap.size rfl (.tmp 17) (.tmp 25) 35 5 (.int .u8 0) 1 rfl Tryd.underlying35 info5 rfl (by decide) (by omega) v161 y160 t187 _ _ _ (fun k_ => some k_ ≠ (.slice Ao53 t187.length co53 : Value).ownBlock) (fun _ => False) rfl rfl ?aO ?aR (fun _ _ h => h) (fun _ h => h.elim) ?aF ?aB ?aS ?aL ?_; (case aR => repeat (first | exact (Kd.R_reads' HO189.out).2.2 | (with_reducible refine Kd.C_alloc ?_ _) | (with_reducible refine Kd.C_drewN ?_ _) | (with_reducible refine Kd.C_drew ?_))); (case aB => exact (by repeat (first | (with_reducible first | exact HB.out | apply below_alloc | apply pw_below_drewN | apply below_drew1 | refine below_set ?_ GE159.out) | exact HB.out))); (case aF => exact (fun k_ hk => Kd.fresh' (Kd.R_lt (by (with_reducible repeat (first | apply Kd.R_alloc | apply Kd.R_drewN | apply Kd.R_drew)); exact HO189.out)) k_ hk)); (case aO => exact (by (with_reducible repeat (first | apply Kd.R_alloc | apply Kd.R_drewN | apply Kd.R_drew)); exact Kd.R_mono HO162.out (fun _ hk => hk.2))); (case aS => exact (below_size (by repeat (first | (with_reducible first | exact HB.out | apply below_alloc | apply pw_below_drewN | apply below_drew1 | refine below_set ?_ GE159.out) | exact HB.out)))); (case aL => have := LMc46.out; omega); intro v191 w52 ho hb hg hat; rw [← Ny190.out] at ho; have n0_ := Aside0.mk (blk_grown (g := gb159) (o := .cells #[.bool a0_0, .bool a0_1, .bool true, .bool false, .int .u32 a0_4, .int .u32 a0_5, .int .i64 a0_6] 24 (0, 0)) (by (with_reducible repeat (first | refine blk_drewN ?_ _ | refine blk_drew ?_ | refine blk_alloc ?_ _)); exact BK159.out) hg (Kd.R_ne HO162.out BK159.out (by decide))); have n1_ := Aside0.mk (Kd.R_after (ok := (fun _ => True)) (by (with_reducible repeat (first | apply Kd.R_alloc | apply Kd.R_drewN | apply Kd.R_drew)); exact HO189.out) hg hat); have n2_ := Aside0.mk (hb); have n3_ := Aside0.mk (ho); clear BK159; clear HO189; clear HB; clear HO162; have BK159 := n0_; have HO189 := n1_; have HB := n2_; have HO192 := n3_; clear n0_ n1_ n2_ n3_; clear ho hb hg hat))
          go_ret
          exact ⟨_, by first | rfl | (simp [errW_none, errW_some] <;> rfl) | (simp [*, errW_none, errW_some] <;> rfl), by (with_reducible repeat (first | apply Kd.R_alloc | apply Kd.R_drewN | apply Kd.R_drew)); exact Kd.R_mono HO192.out (fun _ hk => trivial), by repeat (first | (with_reducible first | exact HB.out | apply below_alloc | apply pw_below_drewN | apply below_drew1 | refine below_set ?_ GE159.out) | exact HB.out)⟩
        · rw [if_neg c46] at H
          exact absurd H (by simp)
  · replace c3 := Bool.eq_false_iff.mpr c3
    subst c3
    have H1 : ((some (([255, 3] : List Int) : List Int)).bind fun y193 => (if y160.length + y193.length < 140737488355328 then ((some (y160 ++ y193 : List Int)).bind fun y196 => (if a0_3 = true then ((marlineref09_Put.f a1 (a1 != 49185)).bind fun t199 => (if y196.length + t199.length < 140737488355328 then (some (y196 ++ t199)) else (none))) else ((marlineref09_Put.f a1 false).bind fun t205 => (if y196.length + t205.length < 140737488355328 then (some (y196 ++ t205)) else (none))))) else (none))) = some r := by rw [if_neg (show ¬ (false = true) by decide)] at H; exact H
    clear H
    have H := H1
    clear H1
    obtain ⟨y193, hy193⟩ : ∃ y_ : List Int, y_ = (([255, 3] : List Int)) := ⟨_, rfl⟩
    replace H : (if y160.length + y193.length < 140737488355328 then ((some (y160 ++ y193 : List Int)).bind fun y196 => (if a0_3 = true then ((marlineref09_Put.f a1 (a1 != 49185)).bind fun t199 => (if y196.length + t199.length < 140737488355328 then (some (y196 ++ t199)) else (none))) else ((marlineref09_Put.f a1 false).bind fun t205 => (if y196.length + t205.length < 140737488355328 then (some (y196 ++ t205)) else (none))))) else (none)) = some r := by first | (rw [hy193]; with_reducible exact H) | (have H2_ := (Option.bind_some _ _).symm.trans H; rw [hy193]; with_reducible exact H2_) | (have H2_ := (Option.bind_some _ _).symm.trans H; with_reducible exact H2_) | with_reducible exact H | (rw [hy193]; exact H) | exact H
    have Ny193 := Aside0.mk hy193
    clear hy193
    by_cases c54 : y160.length + y193.length < 140737488355328
    · rw [if_pos c54] at H
      have LMc54 := Aside0.mk c54
      clear c54
      obtain ⟨y196, hy196⟩ : ∃ y_ : List Int, y_ = (y160 ++ y193) := ⟨_, rfl⟩
      replace H : (if a0_3 = true then ((marlineref09_Put.f a1 (a1 != 49185)).bind fun t199 => (if y196.length + t199.length < 140737488355328 then (some (y196 ++ t199)) else (none))) else ((marlineref09_Put.f a1 false).bind fun t205 => (if y196.length + t205.length < 140737488355328 then (some (y196 ++ t205)) else (none)))) = some r := by first | (rw [hy196]; with_reducible exact H) | (have H2_ := (Option.bind_some _ _).symm.trans H; rw [hy196]; with_reducible exact H2_) | (have H2_ := (Option.bind_some _ _).symm.trans H; with_reducible exact H2_) | with_reducible exact H | (rw [hy196]; exact H) | exact H
      have Ny196 := Aside0.mk hy196
      clear hy196
      by_cases c55 : a0_3 = true
      · subst c55
        have H1 : ((marlineref09_Put.f a1 (a1 != 49185)).bind fun t199 => (if y196.length + t199.length < 140737488355328 then (some (y196 ++ t199)) else (none))) = some r := by rw [if_pos rfl] at H; exact H
        clear H
        have H := H1
        clear H1
        replace H := Option.bind_eq_some_iff.mp H
        obtain ⟨t199, A560, H⟩ := H
        replace H : (if y196.length + t199.length < 140737488355328 then (some (y196 ++ t199)) else (none)) = some r := H
        have A56 := Aside0.mk A560
        clear A560
        by_cases c57 : y196.length + t199.length < 140737488355328
        · rw [if_pos c57] at H
          have LMc57 := Aside0.mk c57
          clear c57
          obtain ⟨y202, hy202⟩ : ∃ y_ : List Int, y_ = (y196 ++ t199) := ⟨_, rfl⟩
          replace H : (some y202) = some r := by first | (rw [hy202]; with_reducible exact H) | (have H2_ := (Option.bind_some _ _).symm.trans H; rw [hy202]; with_reducible exact H2_) | (have H2_ := (Option.bind_some _ _).symm.trans H; with_reducible exact H2_) | with_reducible exact H | (rw [hy202]; exact H) | exact H
          have Ny202 := Aside0.mk hy202
          clear hy202
          obtain rfl := Option.some.inj H
          go_enter Tryd.func33, Tryd.ntmps33
          go_wp2_with (first | ((with_reducible refine gate_dst (N := 2) rfl ?_); refine box_event ?hg (N := 2) ?hd (cs := #[.bool a0_0, .bool a0_1, .bool false, .bool true, .int .u32 a0_4, .int .u32 a0_5, .int .i64 a0_6]) (t := 24) ?hr ?_; (case hd => rfl); (case hg => rfl); (case hr => first | (go_simp; done) | (go_simp; rfl)); intro gb159 hg w58 hbox hb; have n0_ := Aside0.mk (below_step (by repeat (first | (with_reducible first | exact HB.out | apply below_alloc | apply pw_below_drewN | apply below_drew1) | exact HB.out)) hb); have n1_ := Aside0.mk (hbox); have n2_ := Aside0.mk ((by rw [hg]; exact (below_size (by repeat (first | (with_reducible first | exact HB.out | apply below_alloc | apply pw_below_drewN | apply below_drew1) | exact HB.out))) : w.heap.size ≤ gb159)); have n3_ := Aside0.mk ((by rw [hg]; exact (below_size (by repeat (first | (with_reducible first | exact HB.out | apply below_alloc | apply pw_below_drewN | apply below_drew1) | exact HB.out))) : w.heap.size ≤ gb159)); clear HB; have HB := n0_; have BK159 := n1_; have GW159 := n2_; have GE159 := n3_; clear n0_ n1_ n2_ n3_; clear hb hbox hg) | ((with_reducible refine gate_dst (N := 6) rfl ?_); refine Kd.R_lit (Kd.int .u8) _ 5 ?hg (N := 6) ?hd (xs := ([] : List Int)) (inner := []) (ok := fun _ => True) (okp := fun _ => True) ?hr ?hp (fun _ hk => hk) trivial (Below.refl _ _) (Nat.le_refl _) (by simp) ?_; (case hd => rfl); (case hg => rfl); (case hr => first | (go_simp; done) | (go_simp; rfl)); (case hp => exact (Reps.none _ _)); intro v161 w59 ho60 hb hg_ hnew_; clear hg_ hnew_; (first | rw [← Ny160.out] at ho60 | (simp only [Int.reduceToNat] at ho60; rw [← Ny160.out] at ho60)); have n0_ := Aside0.mk (Kd.R_lower ho60 (below_size (by repeat (first | (with_reducible first | exact HB.out | apply below_alloc | apply pw_below_drewN | apply below_drew1 | refine below_set ?_ GE159.out) | exact HB.out)))); have n1_ := Aside0.mk (blk_below (g := gb159) (o := .cells #[.bool a0_0, .bool a0_1, .bool false, .bool true, .int .u32 a0_4, .int .u32 a0_5, .int .i64 a0_6] 24 (0, 0)) (by (with_reducible repeat (first | refine blk_drewN ?_ _ | refine blk_drew ?_ | refine blk_alloc ?_ _)); exact BK159.out) hb); have n2_ := Aside0.mk (below_step (by repeat (first | (with_reducible first | exact HB.out | apply below_alloc | apply pw_below_drewN | apply below_drew1 | refine below_set ?_ GE159.out) | exact HB.out)) hb); clear BK159; clear HB; have HO162 := n0_; have BK159 := n1_; have HB := n2_; clear n0_ n1_ n2_; clear hb ho60; have hcz61_0 : w59.cell? ⟨gb159, 0, none⟩ = some (.bool a0_0) := (blk_cell BK159.out 0).trans rfl; have hcz61_1 : w59.cell? ⟨gb159, 1, none⟩ = some (.bool a0_1) := (blk_cell BK159.out 1).trans rfl; have hcz61_2 : w59.cell? ⟨gb159, 2, none⟩ = some (.bool false) := (blk_cell BK159.out 2).trans rfl; have hcz61_3 : w59.cell? ⟨gb159, 3, none⟩ = some (.bool true) := (blk_cell BK159.out 3).trans rfl; have hcz61_4 : w59.cell? ⟨gb159, 4, none⟩ = some (.int .u32 a0_4) := (blk_cell BK159.out 4).trans rfl; have hcz61_5 : w59.cell? ⟨gb159, 5, none⟩ = some (.int .u32 a0_5) := (blk_cell BK159.out 5).trans rfl; have hcz61_6 : w59.cell? ⟨gb159, 6, none⟩ = some (.int .i64 a0_6) := (blk_cell BK159.out 6).trans rfl; have hfz61_0 := blk_frozen BK159.out 0; have hfz61_1 := blk_frozen BK159.out 1; have hfz61_2 := blk_frozen BK159.out 2; have hfz61_3 := blk_frozen BK159.out 3; have hfz61_4 := blk_frozen BK159.out 4; have hfz61_5 := blk_frozen BK159.out 5; have hfz61_6 := blk_frozen BK159.out 6) | ((with_reducible refine gate_dst (N := 15) rfl ?_); refine Kd.R_lit (Kd.int .u8) _ 5 ?hg (N := 15) ?hd (xs := ([255, 3] : List Int)) (inner := [.int .u8 255, .int .u8 3]) (ok := fun _ => True) (okp := fun _ => True) ?hr ?hp (fun _ hk => hk) trivial (Below.refl _ _) (Nat.le_refl _) (by simp) ?_; (case hd => rfl); (case hg => rfl); (case hr => first | (go_simp; done) | (go_simp; rfl)); (case hp => exact (Reps.one (show Kd.M (Kd.int .u8) _ _ _ 255 [.int .u8 255] from rfl) (Reps.one (show Kd.M (Kd.int .u8) _ _ _ 3 [.int .u8 3] from rfl) (Reps.none _ _)))); intro v194 w62 ho63 hb hg_ hnew_; clear hg_ hnew_; (first | rw [← Ny193.out] at ho63 | (simp only [Int.reduceToNat] at ho63; rw [← Ny193.out] at ho63)); have n0_ := Aside0.mk (Kd.R_elder' (by (with_reducible repeat (first | apply Kd.R_alloc | apply Kd.R_drewN | apply Kd.R_drew)); exact HO162.out) (Kd.R_base ho63) hb); have n1_ := Aside0.mk (Kd.R_lower (Kd.R_new' ho63 (Kd.R_lt (by (with_reducible repeat (first | apply Kd.R_alloc | apply Kd.R_drewN | apply Kd.R_drew)); exact HO162.out))) (below_size (by repeat (first | (with_reducible first | exact HB.out | apply below_alloc | apply pw_below_drewN | apply below_drew1 | refine below_set ?_ GE159.out) | exact HB.out)))); have n2_ := Aside0.mk (blk_below (g := gb159) (o := .cells #[.bool a0_0, .bool a0_1, .bool false, .bool true, .int .u32 a0_4, .int .u32 a0_5, .int .i64 a0_6] 24 (0, 0)) (by (with_reducible repeat (first | refine blk_drewN ?_ _ | refine blk_drew ?_ | refine blk_alloc ?_ _)); exact BK159.out) hb); have n3_ := Aside0.mk (below_step (by repeat (first | (with_reducible first | exact HB.out | apply below_alloc | apply pw_below_drewN | apply below_drew1 | refine below_set ?_ GE159.out) | exact HB.out)) hb); clear HO162; clear BK159; clear HB; have HO162 := n0_; have HO195 := n1_; have BK159 := n2_; have HB := n3_; clear n0_ n1_ n2_ n3_; clear hb ho63; obtain ⟨Ao65, co65, eo65⟩ := Kd.R_slice HO195.out; subst eo65) | ((with_reducible refine gate_builtin (b := .append) (xs := #[.tmp 14, .tmp 15]) rfl ?_); at_builtin; refine Kd.R_append_rows (Kd.int .u8) (w0 := w) w.heap.size rfl (.tmp 14) (.tmp 15) 35 5 (.int .u8 0) 1 rfl Tryd.underlying35 info5 rfl (by decide) (by omega) v161 y160 y193 _ _ _ (fun k_ => some k_ ≠ (.slice Ao65 y193.length co65 : Value).ownBlock) (fun _ => False) rfl rfl ?aO ?aR (fun _ _ h => h) (fun _ h => h.elim) ?aF ?aB ?aS ?aL ?_; (case aR => repeat (first | exact (Kd.R_reads' HO195.out).2.2 | (with_reducible refine Kd.C_alloc ?_ _) | (with_reducible refine Kd.C_drewN ?_ _) | (with_reducible refine Kd.C_drew ?_))); (case aB => exact (by repeat (first | (with_reducible first | exact HB.out | apply below_alloc | apply pw_below_drewN | apply below_drew1 | refine below_set ?_ GE159.out) | exact HB.out))); (case aF => exact (fun k_ hk => Kd.fresh' (Kd.R_lt (by (with_reducible repeat (first | apply Kd.R_alloc | apply Kd.R_drewN | apply Kd.R_drew)); exact HO195.out)) k_ hk)); (case aO => exact (by (with_reducible repeat (first | apply Kd.R_alloc | apply Kd.R_drewN | apply Kd.R_drew)); exact Kd.R_mono HO162.out (fun _ hk => hk.2))); (case aS => exact (below_size (by repeat (first | (with_reducible first | exact HB.out | apply below_alloc | apply pw_below_drewN | apply below_drew1 | refine below_set ?_ GE159.out) | exact HB.out)))); (case aL => have := LMc54.out; omega); intro v197 w64 ho hb hg hat; rw [← Ny196.out] at ho; have n0_ := Aside0.mk (blk_grown (g := gb159) (o := .cells #[.bool a0_0, .bool a0_1, .bool false, .bool true, .int .u32 a0_4, .int .u32 a0_5, .int .i64 a0_6] 24 (0, 0)) (by (with_reducible repeat (first | refine blk_drewN ?_ _ | refine blk_drew ?_ | refine blk_alloc ?_ _)); exact BK159.out) hg (Kd.R_ne HO162.out BK159.out (by decide))); have n1_ := Aside0.mk (Kd.R_after (ok := (fun _ => True)) (by (with_reducible repeat (first | apply Kd.R_alloc | apply Kd.R_drewN | apply Kd.R_drew)); exact HO195.out) hg hat); have n2_ := Aside0.mk (hb); have n3_ := Aside0.mk (ho); clear BK159; clear HO195; clear HB; clear HO162; have BK159 := n0_; have HO195 := n1_; have HB := n2_; have HO198 := n3_; clear n0_ n1_ n2_ n3_; clear ho hb hg hat; have hcz66_0 : w64.cell? ⟨gb159, 0, none⟩ = some (.bool a0_0) := (blk_cell BK159.out 0).trans rfl; have hcz66_1 : w64.cell? ⟨gb159, 1, none⟩ = some (.bool a0_1) := (blk_cell BK159.out 1).trans rfl; have hcz66_2 : w64.cell? ⟨gb159, 2, none⟩ = some (.bool false) := (blk_cell BK159.out 2).trans rfl; have hcz66_3 : w64.cell? ⟨gb159, 3, none⟩ = some (.bool true) := (blk_cell BK159.out 3).trans rfl; have hcz66_4 : w64.cell? ⟨gb159, 4, none⟩ = some (.int .u32 a0_4) := (blk_cell BK159.out 4).trans rfl; have hcz66_5 : w64.cell? ⟨gb159, 5, none⟩ = some (.int .u32 a0_5) := (blk_cell BK159.out 5).trans rfl; have hcz66_6 : w64.cell? ⟨gb159, 6, none⟩ = some (.int .i64 a0_6) := (blk_cell BK159.out 6).trans rfl; have hfz66_0 := blk_frozen BK159.out 0; have hfz66_1 := blk_frozen BK159.out 1; have hfz66_2 := blk_frozen BK159.out 2; have hfz66_3 := blk_frozen BK159.out 3; have hfz66_4 := blk_frozen BK159.out 4; have hfz66_5 := blk_frozen BK159.out 5; have hfz66_6 := blk_frozen BK159.out 6) | ((with_reducible refine gate_callee (f := 61) rfl ?_); refine goesL_ (some 25) rfl rfl Tryd.func61 (by kernel_rfl) rfl #[.int .i64 a1, .bool (a1 != 49185)] rfl (by (try simp only [List.map_toArray, List.map_cons, List.map_nil]); first | done | rfl | (simp only [List.length_drop, List.length_take]; rfl)) ?_; (with_reducible refine (marlineref09_Put.calls a1 (a1 != 49185) t199 _ A56.out).mono ?_); rintro e w67 ⟨v200, rfl, ho0, hb⟩; refine ⟨_, rfl, ?_⟩; have n0_ := Aside0.mk (Kd.R_elder' (by (with_reducible repeat (first | apply Kd.R_alloc | apply Kd.R_drewN | apply Kd.R_drew)); exact HO195.out) (Kd.R_base ho0) hb); have n1_ := Aside0.mk (Kd.R_elder' (by (with_reducible repeat (first | apply Kd.R_alloc | apply Kd.R_drewN | apply Kd.R_drew)); exact HO198.out) (Kd.R_base ho0) hb); have n2_ := Aside0.mk (Kd.R_lower (Kd.R_new' (Kd.R_new' ho0 (Kd.R_lt (by (with_reducible repeat (first | apply Kd.R_alloc | apply Kd.R_drewN | apply Kd.R_drew)); exact HO195.out))) (Kd.R_lt (by (with_reducible repeat (first | apply Kd.R_alloc | apply Kd.R_drewN | apply Kd.R_drew)); exact HO198.out))) (below_size (by repeat (first | (with_reducible first | exact HB.out | apply below_alloc | apply pw_below_drewN | apply below_drew1 | refine below_set ?_ GE159.out) | exact HB.out)))); have n3_ := Aside0.mk (blk_below (g := gb159) (o := .cells #[.bool a0_0, .bool a0_1, .bool false, .bool true, .int .u32 a0_4, .int .u32 a0_5, .int .i64 a0_6] 24 (0, 0)) (by (with_reducible repeat (first | refine blk_drewN ?_ _ | refine blk_drew ?_ | refine blk_alloc ?_ _)); exact BK159.out) hb); have n4_ := Aside0.mk (below_step (by repeat (first | (with_reducible first | exact HB.out | apply below_alloc | apply pw_below_drewN | apply below_drew1 | refine below_set ?_ GE159.out) | exact HB.out)) hb); clear HO195; clear HO198; clear BK159; clear HB; have HO195 := n0_; have HO198 := n1_; have HO201 := n2_; have BK159 := n3_; have HB := n4_; clear n0_ n1_ n2_ n3_ n4_; (try clear hb); (try clear hb2); (try clear hk); (try clear hi); (try clear ho0); obtain ⟨Ao69, co69, eo69⟩ := Kd.R_slice HO201.out; subst eo69) | ((with_reducible refine gate_builtin (b := .append) (xs := #[.tmp 17, .tmp 25]) rfl ?_); at_builtin; refine Kd.R_append_rows (Kd.int .u8) (w0 := w) w.heap.size rfl (.tmp 17) (.tmp 25) 35 5 (.int .u8 0) 1 rfl Tryd.underlying35 info5 rfl (by decide) (by omega) v197 y196 t199 _ _ _ (fun k_ => some k_ ≠ (.slice Ao65 y193.length co65 : Value).ownBlock ∧ some k_ ≠ (.slice Ao69 t199.length co69 : Value).ownBlock) (fun _ => False) rfl rfl ?aO ?aR (fun _ _ h => h) (fun _ h => h.elim) ?aF ?aB ?aS ?aL ?_; (case aR => repeat (first | exact (Kd.R_reads' HO201.out).2.2 | (with_reducible refine Kd.C_alloc ?_ _) | (with_reducible refine Kd.C_drewN ?_ _) | (with_reducible refine Kd.C_drew ?_))); (case aB => exact (by repeat (first | (with_reducible first | exact HB.out | apply below_alloc | apply pw_below_drewN | apply below_drew1 | refine below_set ?_ GE159.out) | exact HB.out))); (case aF => exact (fun k_ hk => ⟨Kd.fresh' (Kd.R_lt (by (with_reducible repeat (first | apply Kd.R_alloc | apply Kd.R_drewN | apply Kd.R_drew)); exact HO195.out)) k_ hk, Kd.fresh' (Kd.R_lt (by (with_reducible repeat (first | apply Kd.R_alloc | apply Kd.R_drewN | apply Kd.R_drew)); exact HO201.out)) k_ hk⟩)); (case aO => exact (by (with_reducible repeat (first | apply Kd.R_alloc | apply Kd.R_drewN | apply Kd.R_drew)); exact HO198.out)); (case aS => exact (below_size (by repeat (first | (with_reducible first | exact HB.out | apply below_alloc | apply pw_below_drewN | apply below_drew1 | refine below_set ?_ GE159.out) | exact HB.out)))); (case aL => have := LMc57.out; omega); intro v203 w68 ho hb hg hat; rw [← Ny202.out] at ho; have n0_ := Aside0.mk (blk_grown (g := gb159) (o := .cells #[.bool a0_0, .bool a0_1, .bool false, .bool true, .int .u32 a0_4, .int .u32 a0_5, .int .i64 a0_6] 24 (0, 0)) (by (with_reducible repeat (first | refine blk_drewN ?_ _ | refine blk_drew ?_ | refine blk_alloc ?_ _)); exact BK159.out) hg (Kd.R_ne HO198.out BK159.out (by decide))); have n1_ := Aside0.mk (Kd.R_after (ok := (fun k_ => some k_ ≠ (.slice Ao69 t199.length co69 : Value).ownBlock)) (by (with_reducible repeat (first | apply Kd.R_alloc | apply Kd.R_drewN | apply Kd.R_drew)); exact Kd.R_mono HO195.out (fun _ hk => ⟨hk.2, hk.1.2⟩)) hg hat); have n2_ := Aside0.mk (Kd.R_after (ok := (fun k_ => some k_ ≠ (.slice Ao65 y193.length co65 : Value).ownBlock)) (by (with_reducible repeat (first | apply Kd.R_alloc | apply Kd.R_drewN | apply Kd.R_drew)); exact Kd.R_mono HO201.out (fun _ hk => ⟨hk.1.2, hk.2⟩)) hg hat); have n3_ := Aside0.mk (hb); have n4_ := Aside0.mk (ho); clear BK159; clear HO195; clear HO201; clear HB; clear HO198; have BK159 := n0_; have HO195 := n1_; have HO201 := n2_; have HB := n3_; have HO204 := n4_; clear n0_ n1_ n2_ n3_ n4_; clear ho hb hg hat))
          go_ret
          exact ⟨_, by first | rfl | (simp [errW_none, errW_some] <;> rfl) | (simp [*, errW_none, errW_some] <;> rfl), by (with_reducible repeat (first | apply Kd.R_alloc | apply Kd.R_drewN | apply Kd.R_drew)); exact Kd.R_mono HO204.out (fun _ hk => trivial), by repeat (first | (with_reducible first | exact HB.out | apply below_alloc | apply pw_below_drewN | apply below_drew1 | refine below_set ?_ GE159.out) | exact HB.out)⟩
        · rw [if_neg c57] at H
          exact absurd H (by simp)
      · replace c55 := Bool.eq_false_iff.mpr c55
        subst c55
        have H1 : ((marlineref09_Put.f a1 false).bind fun t205 => (if y196.length + t205.length < 140737488355328 then (some (y196 ++ t205)) else (none))) = some r := by rw [if_neg (show ¬ (false = true) by decide)] at H; exact H
        clear H
        have H := H1
        clear H1
        replace H := Option.bind_eq_some_iff.mp H
        obtain ⟨t205, A700, H⟩ := H
        replace H : (if y196.length + t205.length < 140737488355328 then (some (y196 ++ t205)) else (none)) = some r := H
        have A70 := Aside0.mk A700
        clear A700
        by_cases c71 : y196.length + t205.length < 140737488355328
        · rw [if_pos c71] at H
          have LMc71 := Aside0.mk c71
          clear c71
          obtain ⟨y208, hy208⟩ : ∃ y_ : List Int, y_ = (y196 ++ t205) := ⟨_, rfl⟩
          replace H : (some y208) = some r := by first | (rw [hy208]; with_reducible exact H) | (have H2_ := (Option.bind_some _ _).symm.trans H; rw [hy208]; with_reducible exact H2_) | (have H2_ := (Option.bind_some _ _).symm.trans H; with_reducible exact H2_) | with_reducible exact H | (rw [hy208]; exact H) | exact H
          have Ny208 := Aside0.mk hy208
          clear hy208
          obtain rfl := Option.some.inj H
          go_enter Tryd.func33, Tryd.ntmps33
          go_wp2_with (first | ((with_reducible refine gate_dst (N := 2) rfl ?_); refine box_event ?hg (N := 2) ?hd (cs := #[.bool a0_0, .bool a0_1, .bool false, .bool false, .int .u32 a0_4, .int .u32 a0_5, .int .i64 a0_6]) (t := 24) ?hr ?_; (case hd => rfl); (case hg => rfl); (case hr => first | (go_simp; done) | (go_simp; rfl)); intro gb159 hg w72 hbox hb; have n0_ := Aside0.mk (below_step (by repeat (first | (with_reducible first | exact HB.out | apply below_alloc | apply pw_below_drewN | apply below_drew1) | exact HB.out)) hb); have n1_ := Aside0.mk (hbox); have n2_ := Aside0.mk ((by rw [hg]; exact (below_size (by repeat (first | (with_reducible first | exact HB.out | apply below_alloc | apply pw_below_drewN | apply below_drew1) | exact HB.out))) : w.heap.size ≤ gb159)); have n3_ := Aside0.mk ((by rw [hg]; exact (below_size (by repeat (first | (with_reducible first | exact HB.out | apply below_alloc | apply pw_below_drewN | apply below_drew1) | exact HB.out))) : w.heap.size ≤ gb159)); clear HB; have HB := n0_; have BK159 := n1_; have GW159 := n2_; have GE159 := n3_; clear n0_ n1_ n2_ n3_; clear hb hbox hg) | ((with_reducible refine gate_dst (N := 6) rfl ?_); refine Kd.R_lit (Kd.int .u8) _ 5 ?hg (N := 6) ?hd (xs := ([] : List Int)) (inner := []) (ok := fun _ => True) (okp := fun _ => True) ?hr ?hp (fun _ hk => hk) trivial (Below.refl _ _) (Nat.le_refl _) (by simp) ?_; (case hd => rfl); (case hg => rfl); (case hr => first | (go_simp; done) | (go_simp; rfl)); (case hp => exact (Reps.none _ _)); intro v161 w73 ho74 hb hg_ hnew_; clear hg_ hnew_; (first | rw [← Ny160.out] at ho74 | (simp only [Int.reduceToNat] at ho74; rw [← Ny160.out] at ho74)); have n0_ := Aside0.mk (Kd.R_lower ho74 (below_size (by repeat (first | (with_reducible first | exact HB.out | apply below_alloc | apply pw_below_drewN | apply below_drew1 | refine below_set ?_ GE159.out) | exact HB.out)))); have n1_ := Aside0.mk (blk_below (g := gb159) (o := .cells #[.bool a0_0, .bool a0_1, .bool false, .bool false, .int .u32 a0_4, .int .u32 a0_5, .int .i64 a0_6] 24 (0, 0)) (by (with_reducible repeat (first | refine blk_drewN ?_ _ | refine blk_drew ?_ | refine blk_alloc ?_ _)); exact BK159.out) hb); have n2_ := Aside0.mk (below_step (by repeat (first | (with_reducible first | exact HB.out | apply below_alloc | apply pw_below_drewN | apply below_drew1 | refine below_set ?_ GE159.out) | exact HB.out)) hb); clear BK159; clear HB; have HO162 := n0_; have BK159 := n1_; have HB := n2_; clear n0_ n1_ n2_; clear hb ho74; have hcz75_0 : w73.cell? ⟨gb159, 0, none⟩ = some (.bool a0_0) := (blk_cell BK159.out 0).trans rfl; have hcz75_1 : w73.cell? ⟨gb159, 1, none⟩ = some (.bool a0_1) := (blk_cell BK159.out 1).trans rfl; have hcz75_2 : w73.cell? ⟨gb159, 2, none⟩ = some (.bool false) := (blk_cell BK159.out 2).trans rfl; have hcz75_3 : w73.cell? ⟨gb159, 3, none⟩ = some (.bool false) := (blk_cell BK159.out 3).trans rfl; have hcz75_4 : w73.cell? ⟨gb159, 4, none⟩ = some (.int .u32 a0_4) := (blk_cell BK159.out 4).trans rfl; have hcz75_5 : w73.cell? ⟨gb159, 5, none⟩ = some (.int .u32 a0_5) := (blk_cell BK159.out 5).trans rfl; have hcz75_6 : w73.cell? ⟨gb159, 6, none⟩ = some (.int .i64 a0_6) := (blk_cell BK159.out 6).trans rfl; have hfz75_0 := blk_frozen BK159.out 0; have hfz75_1 := blk_frozen BK159.out 1; have hfz75_2 := blk_frozen BK159.out 2; have hfz75_3 := blk_frozen BK159.out 3; have hfz75_4 := blk_frozen BK159.out 4; have hfz75_5 := blk_frozen BK159.out 5; have hfz75_6 := blk_frozen BK159.out 6) | ((with_reducible refine gate_dst (N := 15) rfl ?_); refine Kd.R_lit (Kd.int .u8) _ 5 ?hg (N := 15) ?hd (xs := ([255, 3] : List Int)) (inner := [.int .u8 255, .int .u8 3]) (ok := fun _ => True) (okp := fun _ => True) ?hr ?hp (fun _ hk => hk) trivial (Below.refl _ _) (Nat.le_refl _) (by simp) ?_; (case hd => rfl); (case hg => rfl); (case hr => first | (go_simp; done) | (go_simp; rfl)); (case hp => exact (Reps.one (show Kd.M (Kd.int .u8) _ _ _ 255 [.int .u8 255] from rfl) (Reps.one (show Kd.M (Kd.int .u8) _ _ _ 3 [.int .u8 3] from rfl) (Reps.none _ _)))); intro v194 w76 ho77 hb hg_ hnew_; clear hg_ hnew_; (first | rw [← Ny193.out] at ho77 | (simp only [Int.reduceToNat] at ho77; rw [← Ny193.out] at ho77)); have n0_ := Aside0.mk (Kd.R_elder' (by (with_reducible repeat (first | apply Kd.R_alloc | apply Kd.R_drewN | apply Kd.R_drew)); exact HO162.out) (Kd.R_base ho77) hb); have n1_ := Aside0.mk (Kd.R_lower (Kd.R_new' ho77 (Kd.R_lt (by (with_reducible repeat (first | apply Kd.R_alloc | apply Kd.R_drewN | apply Kd.R_drew)); exact HO162.out))) (below_size (by repeat (first | (with_reducible first | exact HB.out | apply below_alloc | apply pw_below_drewN | apply below_drew1 | refine below_set ?_ GE159.out) | exact HB.out)))); have n2_ := Aside0.mk (blk_below (g := gb159) (o := .cells #[.bool a0_0, .bool a0_1, .bool false, .bool false, .int .u32 a0_4, .int .u32 a0_5, .int .i64 a0_6] 24 (0, 0)) (by (with_reducible repeat (first | refine blk_drewN ?_ _ | refine blk_drew ?_ | refine blk_alloc ?_ _)); exact BK159.out) hb); have n3_ := Aside0.mk (below_step (by repeat (first | (with_reducible first | exact HB.out | apply below_alloc | apply pw_below_drewN | apply below_drew1 | refine below_set ?_ GE159.out) | exact HB.out)) hb); clear HO162; clear BK159; clear HB; have HO162 := n0_; have HO195 := n1_; have BK159 := n2_; have HB := n3_; clear n0_ n1_ n2_ n3_; clear hb ho77; obtain ⟨Ao79, co79, eo79⟩ := Kd.R_slice HO195.out; subst eo79) | ((with_reducible refine gate_builtin (b := .append) (xs := #[.tmp 14, .tmp 15]) rfl ?_); at_builtin; refine Kd.R_append_rows (Kd.int .u8) (w0 := w) w.heap.size rfl (.tmp 14) (.tmp 15) 35 5 (.int .u8 0) 1 rfl Tryd.underlying35 info5 rfl (by decide) (by omega) v161 y160 y193 _ _ _ (fun k_ => some k_ ≠ (.slice Ao79 y193.length co79 : Value).ownBlock) (fun _ => False) rfl rfl ?aO ?aR (fun _ _ h => h) (fun _ h => h.elim) ?aF ?aB ?aS ?aL ?_; (case aR => repeat (first | exact (Kd.R_reads' HO195.out).2.2 | (with_reducible refine Kd.C_alloc ?_ _) | (with_reducible refine Kd.C_drewN ?_ _) | (with_reducible refine Kd.C_drew ?_))); (case aB => exact (by repeat (first | (with_reducible first | exact HB.out | apply below_alloc | apply pw_below_drewN | apply below_drew1 | refine below_set ?_ GE159.out) | exact HB.out))); (case aF => exact (fun k_ hk => Kd.fresh' (Kd.R_lt (by (with_reducible repeat (first | apply Kd.R_alloc | apply Kd.R_drewN | apply Kd.R_drew)); exact HO195.out)) k_ hk)); (case aO => exact (by (with_reducible repeat (first | apply Kd.R_alloc | apply Kd.R_drewN | apply Kd.R_drew)); exact Kd.R_mono HO162.out (fun _ hk => hk.2))); (case aS => exact (below_size (by repeat (first | (with_reducible first | exact HB.out | apply below_alloc | apply pw_below_drewN | apply below_drew1 | refine below_set ?_ GE159.out) | exact HB.out)))); (case aL => have := LMc54.out; omega); intro v197 w78 ho hb hg hat; rw [← Ny196.out] at ho; have n0_ := Aside0.mk (blk_grown (g := gb159) (o := .cells #[.bool a0_0, .bool a0_1, .bool false, .bool false, .int .u32 a0_4, .int .u32 a0_5, .int .i64 a0_6] 24 (0, 0)) (by (with_reducible repeat (first | refine blk_drewN ?_ _ | refine blk_drew ?_ | refine blk_alloc ?_ _)); exact BK159.out) hg (Kd.R_ne HO162.out BK159.out (by decide))); have n1_ := Aside0.mk (Kd.R_after (ok := (fun _ => True)) (by (with_reducible repeat (first | apply Kd.R_alloc | apply Kd.R_drewN | apply Kd.R_drew)); exact HO195.out) hg hat); have n2_ := Aside0.mk (hb); have n3_ := Aside0.mk (ho); clear BK159; clear HO195; clear HB; clear HO162; have BK159 := n0_; have HO195 := n1_; have HB := n2_; have HO198 := n3_; clear n0_ n1_ n2_ n3_; clear ho hb hg hat; have hcz80_0 : w78.cell? ⟨gb159, 0, none⟩ = some (.bool a0_0) := (blk_cell BK159.out 0).trans rfl; have hcz80_1 : w78.cell? ⟨gb159, 1, none⟩ = some (.bool a0_1) := (blk_cell BK159.out 1).trans rfl; have hcz80_2 : w78.cell? ⟨gb159, 2, none⟩ = some (.bool false) := (blk_cell BK159.out 2).trans rfl; have hcz80_3 : w78.cell? ⟨gb159, 3, none⟩ = some (.bool false) := (blk_cell BK159.out 3).trans rfl; have hcz80_4 : w78.cell? ⟨gb159, 4, none⟩ = some (.int .u32 a0_4) := (blk_cell BK159.out 4).trans rfl; have hcz80_5 : w78.cell? ⟨gb159, 5, none⟩ = some (.int .u32 a0_5) := (blk_cell BK159.out 5).trans rfl; have hcz80_6 : w78.cell? ⟨gb159, 6, none⟩ = some (.int .i64 a0_6) := (blk_cell BK159.out 6).trans rfl; have hfz80_0 := blk_frozen BK159.out 0; have hfz80_1 := blk_frozen BK159.out 1; have hfz80_2 := blk_frozen BK159.out 2; have hfz80_3 := blk_frozen BK159.out 3; have hfz80_4 := blk_frozen BK159.out 4; have hfz80_5 := blk_frozen BK159.out 5; have hfz80_6 := blk_frozen BK159.out 6) | ((with_reducible refine gate_callee (f := 61) rfl ?_); refine goesL_ (some 25) rfl rfl Tryd.func61 (by kernel_rfl) rfl #[.int .i64 a1, .bool false] rfl (by (try simp only [List.map_toArray, List.map_cons, List.map_nil]); first | done | rfl | (simp only [List.length_drop, List.length_take]; rfl)) ?_; (with_reducible refine (marlineref09_Put.calls a1 false t205 _ A70.out).mono ?_); rintro e w81 ⟨v206, rfl, ho0, hb⟩; refine ⟨_, rfl, ?_⟩; have n0_ := Aside0.mk (Kd.R_elder' (by (with_reducible repeat (first | apply Kd.R_alloc | apply Kd.R_drewN | apply Kd.R_drew)); exact HO195.out) (Kd.R_base ho0) hb); have n1_ := Aside0.mk (Kd.R_elder' (by (with_reducible repeat (first | apply Kd.R_alloc | apply Kd.R_drewN | apply Kd.R_drew)); exact HO198.out) (Kd.R_base ho0) hb); have n2_ := Aside0.mk (Kd.R_lower (Kd.R_new' (Kd.R_new' ho0 (Kd.R_lt (by (with_reducible repeat (first | apply Kd.R_alloc | apply Kd.R_drewN | apply Kd.R_drew)); exact HO195.out))) (Kd.R_lt (by (with_reducible repeat (first | apply Kd.R_alloc | apply Kd.R_drewN | apply Kd.R_drew)); exact HO198.out))) (below_size (by repeat (first | (with_reducible first | exact HB.out | apply below_alloc | apply pw_below_drewN | apply below_drew1 | refine below_set ?_ GE159.out) | exact HB.out)))); have n3_ := Aside0.mk (blk_below (g := gb159) (o := .cells #[.bool a0_0, .bool a0_1, .bool false, .bool false, .int .u32 a0_4, .int .u32 a0_5, .int .i64 a0_6] 24 (0, 0)) (by (with_reducible repeat (first | refine blk_drewN ?_ _ | refine blk_drew ?_ | refine blk_alloc ?_ _)); exact BK159.out) hb); have n4_ := Aside0.mk (below_step (by repeat (first | (with_reducible first | exact HB.out | apply below_alloc | apply pw_below_drewN | apply below_drew1 | refine below_set ?_ GE159.out) | exact HB.out)) hb); clear HO195; clear HO198; clear BK159; clear HB; have HO195 := n0_; have HO198 := n1_; have HO207 := n2_; have BK159 := n3_; have HB := n4_; clear n0_ n1_ n2_ n3_ n4_; (try clear hb); (try clear hb2); (try clear hk); (try clear hi); (try clear ho0); obtain ⟨Ao83, co83, eo83⟩ := Kd.R_slice HO207.out; subst eo83) | ((with_reducible refine gate_builtin (b := .append) (xs := #[.tmp 17, .tmp 25]) rfl ?_); at_builtin; refine Kd.R_append_rows (Kd.int .u8) (w0 := w) w.heap.size rfl (.tmp 17) (.tmp 25) 35 5 (.int .u8 0) 1 rfl Tryd.underlying35 info5 rfl (by decide) (by omega) v197 y196 t205 _ _ _ (fun k_ => some k_ ≠ (.slice Ao79 y193.length co79 : Value).ownBlock ∧ some k_ ≠ (.slice Ao83 t205.length co83 : Value).ownBlock) (fun _ => False) rfl rfl ?aO ?aR (fun _ _ h => h) (fun _ h => h.elim) ?aF ?aB ?aS ?aL ?_; (case aR => repeat (first | exact (Kd.R_reads' HO207.out).2.2 | (with_reducible refine Kd.C_alloc ?_ _) | (with_reducible refine Kd.C_drewN ?_ _) | (with_reducible refine Kd.C_drew ?_))); (case aB => exact (by repeat (first | (with_reducible first | exact HB.out | apply below_alloc | apply pw_below_drewN | apply below_drew1 | refine below_set ?_ GE159.out) | exact HB.out))); (case aF => exact (fun k_ hk => ⟨Kd.fresh' (Kd.R_lt (by (with_reducible repeat (first | apply Kd.R_alloc | apply Kd.R_drewN | apply Kd.R_drew)); exact HO195.out)) k_ hk, Kd.fresh' (Kd.R_lt (by (with_reducible repeat (first | apply Kd.R_alloc | apply Kd.R_drewN | apply Kd.R_drew)); exact HO207.out)) k_ hk⟩)); (case aO => exact (by (with_reducible repeat (first | apply Kd.R_alloc | apply Kd.R_drewN | apply Kd.R_drew)); exact HO198.out)); (case aS => exact (below_size (by repeat (first | (with_reducible first | exact HB.out | apply below_alloc | apply pw_below_drewN | apply below_drew1 | refine below_set ?_ GE159.out) | exact HB.out)))); (case aL => have := LMc71.out; omega); intro v209 w82 ho hb hg hat; rw [← Ny208.out] at ho; have n0_ := Aside0.mk (blk_grown (g := gb159) (o := .cells #[.bool a0_0, .bool a0_1, .bool false, .bool false, .int .u32 a0_4, .int .u32 a0_5, .int .i64 a0_6] 24 (0, 0)) (by (with_reducible repeat (first | refine blk_drewN ?_ _ | refine blk_drew ?_ | refine blk_alloc ?_ _)); exact BK159.out) hg (Kd.R_ne HO198.out BK159.out (by decide))); have n1_ := Aside0.mk (Kd.R_after (ok := (fun k_ => some k_ ≠ (.slice Ao83 t205.length co83 : Value).ownBlock)) (by (with_reducible repeat (first | apply Kd.R_alloc | apply Kd.R_drewN | apply Kd.R_drew)); exact Kd.R_mono HO195.out (fun _ hk => ⟨hk.2, hk.1.2⟩)) hg hat); have n2_ := Aside0.mk (Kd.R_after (ok := (fun k_ => some k_ ≠ (.slice Ao79 y193.length co79 : Value).ownBlock)) (by (with_reducible repeat (first | apply Kd.R_alloc | apply Kd.R_drewN | apply Kd.R_drew)); exact Kd.R_mono HO207.out (fun _ hk => ⟨hk.1.2, hk.2⟩)) hg hat); have n3_ := Aside0.mk (hb); have n4_ := Aside0.mk (ho); clear BK159; clear HO195; clear HO207; clear HB; clear HO198; have BK159 := n0_; have HO195 := n1_; have HO207 := n2_; have HB := n3_; have HO210 := n4_; clear n0_ n1_ n2_ n3_ n4_; clear ho hb hg hat))
          go_ret
          exact ⟨_, by first | rfl | (simp [errW_none, errW_some] <;> rfl) | (simp [*, errW_none, errW_some] <;> rfl), by (with_reducible repeat (first | apply Kd.R_alloc | apply Kd.R_drewN | apply Kd.R_drew)); exact Kd.R_mono HO210.out (fun _ hk => trivial), by repeat (first | (with_reducible first | exact HB.out | apply below_alloc | apply pw_below_drewN | apply below_drew1 | refine below_set ?_ GE159.out) | exact HB.out)⟩
        · rw [if_neg c71] at H
          exact absurd H (by simp)
    · rw [if_neg c54] at H
      exact absurd H (by simp)
def marlineref09_Right.f (a0 : Int) : Option (Bool) := if (Int.tmod a0 2) = 1 then (if (Int.tmod (wrap64 (Int.tdiv a0 256)) 2) = 0 then (some (a0 != 255)) else (some false)) else (some false)
set_option maxHeartbeats 8000000 in
set_option maxRecDepth 100000 in
theorem marlineref09_Right.calls (a0 : Int) (r : Bool) (w : World) (h : marlineref09_Right.f a0 = some r) :
    Calls Tryd.prog 34 #[.int .i64 a0] w fun e w' => e = .returned (.bool r) ∧ Drawn0 w w' := by
  have H : (if (Int.tmod a0 2) = 1 then (if (Int.tmod (wrap64 (Int.tdiv a0 256)) 2) = 0 then (some (a0 != 255)) else (some false)) else (some false)) = some r := h
  clear h
  by_cases c2 : (Int.tmod a0 2) = 1
  · rw [if_pos c2] at H
    have c2b0 : ((Int.tmod a0 2) == 1) = true := beq_iff_eq.mpr c2
    have c2b1 : ((Int.tmod a0 2) != 1) = false := bne_eq_false_iff_eq.mpr c2
    clear c2
    by_cases c3 : (Int.tmod (wrap64 (Int.tdiv a0 256)) 2) = 0
    · rw [if_pos c3] at H
      have c3b0 : ((Int.tmod (wrap64 (Int.tdiv a0 256)) 2) == 0) = true := beq_iff_eq.mpr c3
      have c3b1 : ((Int.tmod (wrap64 (Int.tdiv a0 256)) 2) != 0) = false := bne_eq_false_iff_eq.mpr c3
      clear c3
      obtain rfl := Option.some.inj H
      go_enter Tryd.func34, Tryd.ntmps34
      go_wp2
      go_ret
      exact ⟨by first | rfl | (simp; done) | (simp [*]; done), by repeat (first | exact Drawn0.refl _ | apply Drawn0.step)⟩
    · rw [if_neg c3] at H
      have c3b0 : ((Int.tmod (wrap64 (Int.tdiv a0 256)) 2) == 0) = false := beq_eq_false_iff_ne.mpr c3
      have c3b1 : ((Int.tmod (wrap64 (Int.tdiv a0 256)) 2) != 0) = true := bne_iff_ne.mpr c3
      obtain rfl := Option.some.inj H
      go_enter Tryd.func34, Tryd.ntmps34
      go_wp2
      go_ret
      exact ⟨by first | rfl | (simp; done) | (simp [*]; done), by repeat (first | exact Drawn0.refl _ | apply Drawn0.step)⟩
  · rw [if_neg c2] at H
    have c2b0 : ((Int.tmod a0 2) == 1) = false := beq_eq_false_iff_ne.mpr c2
    have c2b1 : ((Int.tmod a0 2) != 1) = true := bne_iff_ne.mpr c2
    obtain rfl := Option.some.inj H
    go_enter Tryd.func34, Tryd.ntmps34
    go_wp2
    go_ret
    exact ⟨by first | rfl | (simp; done) | (simp [*]; done), by repeat (first | exact Drawn0.refl _ | apply Drawn0.step)⟩
end Go.Proofs.YtggpejjfgphihaaDoor.H
end

section
namespace Go.Proofs.YtggpejjfgphihaaDoor.Pu
open Go.RowKit Go.Proofs.YtggpejjfgphihaaDoorW.PrintWords Go.Proofs.YtggpejjfgphihaaDoorW.PrintLast Go.Proofs.YtggpejjfgphihaaDoorW.PrintMore
open Go.Proofs.YtggpejjfgphihaaDoor.Given Go.Proofs.YtggpejjfgphihaaDoor.D Go.Proofs.YtggpejjfgphihaaDoor.H
set_option linter.unusedVariables false
set_option linter.unusedSimpArgs false
def right (p : Nat) : Bool := decide (p % 2 = 1) && decide (p / 256 % 2 = 0) && decide (p ≠ 255)
theorem and_bit (p : Nat) : p &&& 2 ^ 8 = 256 * (p / 256 % 2) := by
  have ht : p.testBit 8 = decide (p / 256 % 2 = 1) := by rw [Nat.testBit_eq_decide_div_mod_eq]
  rcases Nat.mod_two_eq_zero_or_one (p / 256) with h2 | h2
  · rw [h2]
    apply Nat.eq_of_testBit_eq
    intro i
    rw [Nat.testBit_and, Nat.testBit_two_pow]
    by_cases hi : 8 = i
    · subst hi; rw [ht, h2]; decide
    · simp [hi]
  · rw [h2]
    apply Nat.eq_of_testBit_eq
    intro i
    rw [Nat.testBit_and, show 256 * 1 = 2 ^ 8 by decide, Nat.testBit_two_pow]
    by_cases hi : 8 = i
    · subst hi; rw [ht, h2]; decide
    · simp [hi]
theorem and257 (p : Nat) : p &&& 257 = p % 2 + 256 * (p / 256 % 2) := by
  have e : (257 : Nat) = 1 ||| 2 ^ 8 := by decide
  rw [e, Nat.and_or_distrib_left, Nat.and_one_is_mod, and_bit]
  rcases Nat.mod_two_eq_zero_or_one p with h1 | h1 <;> rcases Nat.mod_two_eq_zero_or_one (p / 256) with h2 | h2 <;> rw [h1, h2] <;> decide
theorem f_Right (p : Nat) (hp : p < 65536) : proto_Right.f (p : Int) = some (right p) := by
  unfold proto_Right.f
  rw [show (257 : Int) = ((257 : Nat) : Int) from rfl, and_u16 p 257 (by omega) (by decide), and257]
  have h1 : p % 2 < 2 := Nat.mod_lt _ (by decide)
  have h2 : p / 256 % 2 < 2 := Nat.mod_lt _ (by decide)
  unfold right
  by_cases a : p % 2 = 1
  · by_cases b : p / 256 % 2 = 0
    · rw [if_pos (by omega)]; simp [a, b]; rw [Bool.eq_iff_iff]; simp; omega
    · rw [if_neg (by omega)]; simp [a, b]
  · rw [if_neg (by omega)]; simp [a]
theorem r_Right (p : Nat) (hp : p < 65536) : marlineref09_Right.f (p : Int) = some (right p) := by
  unfold marlineref09_Right.f right
  rw [tmod2 p, show Int.tdiv (p : Int) 256 = ((p / 256 : Nat) : Int) from tdivN p 256, w64 (p / 256) (by omega), tmod2]
  by_cases a : p % 2 = 1
  · by_cases b : p / 256 % 2 = 0
    · rw [if_pos (by omega), if_pos (by omega)]; simp [a, b]; rw [Bool.eq_iff_iff]; simp; omega
    · rw [if_pos (by omega), if_neg (by omega)]; simp [a, b]
  · rw [if_neg (by omega)]; simp [a]
def numN (p : Nat) (short : Bool) : List Nat := if short = true ∧ p < 256 then [p % 256] else [p / 256, p % 256]
theorem numN_lt (p : Nat) (short : Bool) (hp : p < 65536) : ∀ x ∈ numN p short, x < 256 := by
  unfold numN
  split <;> simp <;> omega
theorem numN_len (p : Nat) (short : Bool) : 1 ≤ (numN p short).length ∧ (numN p short).length ≤ 2 := by
  unfold numN
  split <;> simp
theorem u64w (n : Nat) (h : n < 18446744073709551616) : IntKind.u64.wrap (n : Int) = (n : Int) := by
  simp [IntKind.wrap, IntKind.bits, IntKind.signed]; omega
theorem u16w (n : Nat) (h : n < 65536) : IntKind.u16.wrap (n : Int) = (n : Int) := by
  simp [IntKind.wrap, IntKind.bits, IntKind.signed]; omega
theorem wa : wrap64 (2 - 1) = 1 := by unfold wrap64; omega
theorem wb : wrap64 (1 - 1) = 0 := by unfold wrap64; omega
theorem wc : wrap64 (0 - 1) = -1 := by unfold wrap64; omega
theorem wd : wrap64 (8 * 1) = 8 := by unfold wrap64; omega
theorem we : wrap64 (8 * 0) = 0 := by unfold wrap64; omega
theorem wirePut2 (k : Nat) (p : Nat) (hp : p < 65536) : wire_Put.f (k + 3) ([] : List Int) (p : Int) 2 = some [((p / 256 : Nat) : Int), ((p % 256 : Nat) : Int)] := by
  unfold wire_Put.f
  rw [wa, wire_Put.l0, if_pos (by omega), wd, if_pos (by omega), if_pos (by simp), wb, wire_Put.l0, if_pos (by omega), we, if_pos (by omega), if_pos (by simp), wc, wire_Put.l0, if_neg (by omega)]
  have e1 : shr .u64 (p : Int) 8 % 256 = ((p / 256 : Nat) : Int) := by
    unfold shr
    rw [show min (8 : Int).toNat IntKind.u64.bits = 8 by decide]; omega
  have e2 : shr .u64 (p : Int) 0 % 256 = ((p % 256 : Nat) : Int) := by
    unfold shr
    rw [show min (0 : Int).toNat IntKind.u64.bits = 0 by decide]; omega
  rw [e1, e2]; rfl
theorem f_Put (k p : Nat) (short : Bool) (hp : p < 65536) : proto_Put.f (k + 3) (p : Int) short = some (ofN (numN p short)) := by
  unfold proto_Put.f numN
  rw [u64w p (by omega), wirePut2 k p hp, Option.bind_some]
  cases short
  · simp [ofN]
  · by_cases h : p < 256
    · have h2 : (p : Int) < 256 := by omega
      simp [proto_Short.f, h, h2, ofN]
    · have h2 : ¬ (p : Int) < 256 := by omega
      simp [proto_Short.f, h, h2, ofN]
theorem r_Put (p : Nat) (short : Bool) (hp : p < 65536) : marlineref09_Put.f (p : Int) short = some (ofN (numN p short)) := by
  unfold marlineref09_Put.f numN
  rw [show Int.tdiv (p : Int) 256 = ((p / 256 : Nat) : Int) from tdivN p 256, w64 (p / 256) (by omega), show Int.tmod (p : Int) 256 = ((p % 256 : Nat) : Int) from tmodN p 256]
  have e1 : ((p / 256 : Nat) : Int) % 256 = ((p / 256 : Nat) : Int) := by omega
  have e2 : ((p % 256 : Nat) : Int) % 256 = ((p % 256 : Nat) : Int) := by omega
  rw [e1, e2]
  cases short
  · simp [ofN]
  · by_cases h : p < 256
    · have h2 : (p : Int) < 256 := by omega
      simp [h, h2, ofN]
    · have h2 : ¬ (p : Int) < 256 := by omega
      simp [h, h2, ofN]
def headN (acfc pfc : Bool) (p : Nat) : List Nat := if acfc = true ∧ p ≠ 49185 then numN p pfc else 255 :: 3 :: numN p (pfc && decide (p ≠ 49185))
theorem headN_lt (acfc pfc : Bool) (p : Nat) (hp : p < 65536) : ∀ x ∈ headN acfc pfc p, x < 256 := by
  unfold headN
  split
  · exact numN_lt p _ hp
  · intro x hx
    rcases List.mem_cons.1 hx with rfl | hx
    · decide
    rcases List.mem_cons.1 hx with rfl | hx
    · decide
    · exact numN_lt p _ hp x hx
theorem f_head (k p : Nat) (hp : p < 65536) (a b acfc pfc : Bool) (x y z : Int) : head_Put.f (k + 3) a b acfc pfc x y z (p : Int) = some (ofN (headN acfc pfc p)) := by
  unfold head_Put.f headN
  have e : (((p : Int) == 49185) : Bool) = decide (p = 49185) := by rw [Bool.eq_iff_iff]; simp; omega
  rw [e, f_Put k p _ hp, Option.bind_some]
  have hl := numN_len p (pfc && !decide (p = 49185))
  have hd : (!decide (p = 49185)) = decide (p ≠ 49185) := by simp
  rw [hd] at hl ⊢
  by_cases h : p = 49185
  · simp only [h, ne_eq, not_true, decide_false, Bool.and_false, Bool.false_eq_true, if_false, and_false] at hl ⊢
    rw [if_pos (by rw [ofN_length]; omega)]; simp [ofN]
  · cases acfc
    · simp only [h, ne_eq, not_false_eq_true, decide_true, Bool.false_and, Bool.and_true, Bool.false_eq_true, if_false, false_and] at hl ⊢
      rw [if_pos (by rw [ofN_length]; omega)]; simp [ofN]
    · simp only [h, ne_eq, not_false_eq_true, decide_true, Bool.true_and, Bool.and_true, if_true, true_and]
theorem r_head (p : Nat) (hp : p < 65536) (a b acfc pfc : Bool) (x y z : Int) : marlineref10_Put.f a b acfc pfc x y z (p : Int) = some (ofN (headN acfc pfc p)) := by
  have e : (((p : Int) != 49185) : Bool) = decide (p ≠ 49185) := by rw [Bool.eq_iff_iff]; simp; omega
  have hl := fun s => numN_len p s
  unfold marlineref10_Put.f headN
  by_cases h : p = 49185
  · subst h
    cases acfc <;> cases pfc <;> decide +kernel
  · have h' : ¬ (p : Int) = 49185 := by omega
    have hd : decide (p ≠ 49185) = true := decide_eq_true h
    rw [e, hd]
    cases acfc <;> cases pfc <;> simp [h, h', r_Put p _ hp, ofN_length] <;> (have h1 := hl true; have h2 := hl false; first | omega | skip)
    all_goals exact ⟨by omega, rfl⟩
def getN (l : List Nat) (short : Bool) : Nat × Nat × Nat :=
  match l with
  | [] => (0, 0, 2)
  | c :: l => if c % 2 = 0 then (match l with
    | [] => (0, 0, 2)
    | d :: _ => if right (256 * c + d) = true then (256 * c + d, 2, 0) else (0, 0, 7))
    else if right c = true ∧ short = true then (c, 1, 0) else (0, 0, 7)
def tri (t : Nat × Nat × Nat) : Int × Int × Int := ((t.1 : Int), (t.2.1 : Int), (t.2.2 : Int))
theorem or64 (a b : Nat) (ha : a < 2 ^ 64) (hb : b < 2 ^ 64) : Go.bits .or .u64 (a : Int) (b : Int) = ((a ||| b : Nat) : Int) := by
  have h : a ||| b < 2 ^ IntKind.u64.bits := Nat.or_lt_two_pow ha hb
  have e1 : a % 2 ^ IntKind.u64.bits = a := Nat.mod_eq_of_lt ha
  have e2 : b % 2 ^ IntKind.u64.bits = b := Nat.mod_eq_of_lt hb
  simp only [Go.bits, BitVec.ofInt_natCast, BitVec.toNat_or, BitVec.toNat_ofNat, e1, e2]
  exact u64w _ h
theorem wireGet2 (k : Nat) (c d : Nat) (l : List Nat) (hc : c < 256) (hd : d < 256) : wire_Get.f (k + 3) (ofN (c :: d :: l)) 2 = some ((256 * c + d : Nat) : Int) := by
  have ht : (ofN (c :: d :: l)).take (2 : Int).toNat = [(c : Int), (d : Int)] := rfl
  have hl : (2 : Int) ≤ ((ofN (c :: d :: l)).length : Int) := by rw [ofN_length]; simp only [List.length_cons]; omega
  have e1 : IntKind.u64.wrap (0 * 256) = ((0 : Nat) : Int) := by decide
  have e2 : wrap64 (0 + 1) = 1 := by unfold wrap64; omega
  have e3 : wrap64 (1 + 1) = 2 := by unfold wrap64; omega
  have r0 : rd [(c : Int), (d : Int)] 0 = (c : Int) := rfl
  have r1 : rd [(c : Int), (d : Int)] 1 = (d : Int) := rfl
  unfold wire_Get.f
  rw [if_pos (by omega), if_pos hl, ht]
  rw [wire_Get.l0, if_pos (by simp), if_pos (by omega), if_pos (by simp), e1, r0, u64w c (by omega), or64 0 c (by omega) (by omega), Nat.zero_or, e2]
  rw [wire_Get.l0, if_pos (by simp), if_pos (by omega), if_pos (by simp), r1, show (c : Int) * 256 = ((c * 256 : Nat) : Int) by omega, u64w (c * 256) (by omega), u64w d (by omega), or64 _ _ (by omega) (by omega), e3]
  rw [wire_Get.l0, if_neg (by simp)]
  have := Nat.two_pow_add_eq_or_of_lt (i := 8) (b := d) hd c
  rw [show c * 256 = 2 ^ 8 * c by omega, ← this]
theorem f_Get (k : Nat) (l : List Nat) (hl : ∀ x ∈ l, x < 256) (short : Bool) : proto_Get.f (k + 3) (ofN l) short = some (tri (getN l short)) := by
  unfold proto_Get.f
  match l with
  | [] => rfl
  | [c] =>
    have hc := hl c List.mem_cons_self
    have r0 : rd (ofN [c]) 0 = (c : Int) := rfl
    have eb : Go.bits .and .u8 (c : Int) 1 = ((c % 2 : Nat) : Int) := by
      rw [show (1 : Int) = ((1 : Nat) : Int) from rfl, and_u8 c 1 (by omega) (by decide), Nat.and_one_is_mod]
    rw [if_neg (by simp [ofN]), if_pos (by simp [ofN]), r0, eb, u16w c (by omega), f_Right c (by omega)]
    unfold getN
    by_cases h : c % 2 = 0
    · rw [if_pos (by omega), if_pos (by simp [ofN])]; simp [h, tri]
    · rw [if_neg (by omega)]
      cases hr : right c <;> cases short <;> simp [h, tri, hr]
  | c :: d :: l =>
    have hc := hl c List.mem_cons_self
    have hd := hl d (List.mem_cons_of_mem _ List.mem_cons_self)
    have r0 : rd (ofN (c :: d :: l)) 0 = (c : Int) := rfl
    have eb : Go.bits .and .u8 (c : Int) 1 = ((c % 2 : Nat) : Int) := by
      rw [show (1 : Int) = ((1 : Nat) : Int) from rfl, and_u8 c 1 (by omega) (by decide), Nat.and_one_is_mod]
    rw [if_neg (by simp [ofN]; omega), if_pos (by simp [ofN]; omega), r0, eb, u16w c (by omega), f_Right c (by omega)]
    unfold getN
    by_cases h : c % 2 = 0
    · rw [if_pos (by omega), if_neg (by simp [ofN]; omega), wireGet2 k c d l hc hd, Option.bind_some, u16w _ (by omega), f_Right _ (by omega), Option.bind_some]
      cases hr : right (256 * c + d) <;> simp [h, tri, hr]
    · rw [if_neg (by omega)]
      cases hr : right c <;> cases short <;> simp [h, tri, hr]
def begins (l : List Nat) : Bool := match l with
  | a :: b :: _ => decide (a = 255) && decide (b = 3)
  | _ => false
theorem f_begins (l : List Nat) (hl : ∀ x ∈ l, x < 256) : bytes_HasPrefix.f (ofN l) [255, 3] = some (begins l) := by
  unfold bytes_HasPrefix.f
  match l with
  | [] => simp [begins, ofN]
  | [c] => simp [begins, ofN]
  | c :: d :: l =>
    have hc := hl c List.mem_cons_self
    have hd := hl d (List.mem_cons_of_mem _ List.mem_cons_self)
    have hlen : ((ofN (c :: d :: l)).length : Int) ≥ (([255, 3] : List Int).length : Int) := by rw [ofN_length]; simp only [List.length_cons, List.length_nil]; omega
    have ht : (ofN (c :: d :: l)).take ((([255, 3] : List Int).length : Int) : Int).toNat = [(c : Int), (d : Int)] := rfl
    rw [if_pos hlen, if_pos (by omega), if_pos hlen, ht]
    unfold bytes_Equal.f
    rw [Lib.strOfNums_toList, Lib.strOfNums_toList, Option.bind_some]
    unfold begins Lib.bytesOf
    congr 1
    rw [Bool.eq_iff_iff]
    simp only [List.map_cons, List.map_nil, beq_iff_eq, List.cons.injEq, and_true, Bool.and_eq_true, decide_eq_true_eq, Int.toNat_natCast]
    have hu : ∀ x y : Nat, x < 256 → y < 256 → (UInt8.ofNat x = UInt8.ofNat y ↔ x = y) := by
      intro x y hx hy
      constructor
      · intro h
        have := congrArg UInt8.toNat h
        simpa [UInt8.toNat_ofNat', Nat.mod_eq_of_lt hx, Nat.mod_eq_of_lt hy] using this
      · rintro rfl; rfl
    rw [show (255 : Int).toNat = 255 from rfl, show (3 : Int).toNat = 3 from rfl, hu c 255 hc (by decide), hu d 3 hd (by decide)]
def getHead (acfc pfc : Bool) (l : List Nat) : Nat × Nat × Nat :=
  if begins l = false ∧ acfc = false then (0, 0, 7) else
    let t := getN (if begins l = true then l.drop 2 else l) pfc
    if t.2.2 = 0 then (t.1, (if begins l = true then 2 else 0) + t.2.1, 0) else (0, 0, 7)
theorem getN_le (l : List Nat) (s : Bool) : (getN l s).2.1 ≤ 2 := by
  unfold getN
  split
  · simp
  · split
    · split
      · simp
      · split <;> simp
    · split <;> simp
theorem begins_len (l : List Nat) (h : begins l = true) : 2 ≤ l.length := by
  match l, h with
  | a :: b :: l, _ => simp
theorem f_getHead (k : Nat) (a b acfc pfc : Bool) (x y z : Int) (l : List Nat) (hl : ∀ x ∈ l, x < 256) (hlen : l.length < 4611686018427387904) : head_Get.f (k + 3) a b acfc pfc x y z (ofN l) = some (tri (getHead acfc pfc l)) := by
  unfold head_Get.f
  rw [f_begins l hl, Option.bind_some]
  unfold getHead
  by_cases hb : begins l = true
  · have hlen2 := begins_len l hb
    have hcut : cutOf true (ofN l) [255, 3] = ofN (l.drop 2) := by unfold cutOf; rw [if_pos rfl]; exact ofN_drop 2 l
    have h2 := getN_le (l.drop 2) pfc
    simp only [hb, hcut, if_true, Bool.true_eq_false, false_and, if_false, f_Get k _ (fun x hx => hl x (List.mem_of_mem_drop hx)) pfc, Option.bind_some, ofN_length, List.length_drop]
    generalize getN (l.drop 2) pfc = t at *
    obtain ⟨t1, t2, t3⟩ := t
    simp only [tri] at h2 ⊢
    have : wrap64 (wrap64 ((l.length : Int) - ((l.length - 2 : Nat) : Int)) + (t2 : Int)) = ((2 + t2 : Nat) : Int) := by unfold wrap64; omega
    rw [this]
    by_cases h3 : t3 = 0
    · subst h3; rfl
    · have h3' : ¬ (t3 : Int) = 0 := by omega
      simp [tri, h3, h3']
  · have hb' : begins l = false := by simpa using hb
    have hcut : cutOf false (ofN l) [255, 3] = ofN l := by unfold cutOf; rw [if_neg (by decide)]
    simp only [hb', hcut, if_true, true_and, Bool.false_eq_true, if_false, f_Get k _ hl pfc, Option.bind_some, ofN_length]
    have h2 := getN_le l pfc
    cases acfc
    · simp [tri]
    · simp only [Bool.true_eq_false, if_false]
      generalize getN l pfc = t at *
      obtain ⟨t1, t2, t3⟩ := t
      simp only [tri] at h2 ⊢
      have : wrap64 (wrap64 ((l.length : Int) - (l.length : Int)) + (t2 : Int)) = ((0 + t2 : Nat) : Int) := by unfold wrap64; omega
      rw [this]
      by_cases h3 : t3 = 0
      · subst h3; rfl
      · have h3' : ¬ (t3 : Int) = 0 := by omega
        simp [tri, h3, h3']
end Go.Proofs.YtggpejjfgphihaaDoor.Pu
end

section
namespace Go.Proofs.YtggpejjfgphihaaDoor.Pu
open Go.Proofs.YtggpejjfgphihaaDoor.Given Go.Proofs.YtggpejjfgphihaaDoor.Crc
def bytesLE (n : Nat) : Nat → List Nat
  | 0 => []
  | k + 1 => n % 256 :: bytesLE (n / 256) k
theorem bytesLE_length (k : Nat) : ∀ n, (bytesLE n k).length = k := by
  induction k with
  | zero => intro n; rfl
  | succ k ih => intro n; simp [bytesLE, ih]
theorem bytesLE_lt (k : Nat) : ∀ n, ∀ x ∈ bytesLE n k, x < 256 := by
  induction k with
  | zero => intro n x hx; cases hx
  | succ k ih =>
    intro n x hx
    rcases List.mem_cons.1 hx with rfl | hx
    · omega
    · exact ih _ x hx
theorem le_bytesLE (k : Nat) : ∀ n, n < 256 ^ k → le (bytesLE n k) = n := by
  induction k with
  | zero => intro n hn; simp [bytesLE, le] at *; omega
  | succ k ih =>
    intro n hn
    rw [bytesLE, le, ih _ (by rw [Nat.pow_succ] at hn; omega), Nat.xor_comm]
    exact (split8 n).symm
theorem xor_parts (c m : Nat) (hc : c < 256) : (c ^^^ 256 * m) % 256 = c ∧ (c ^^^ 256 * m) / 256 = m := by
  constructor
  · have h := Nat.xor_mod_two_pow (a := c) (b := 256 * m) (n := 8)
    have h1 : (256 * m) % 2 ^ 8 = 0 := by omega
    have h2 : c % 2 ^ 8 = c := by omega
    rw [h1, h2, Nat.xor_zero] at h
    exact h
  · have h := Nat.shiftRight_xor_distrib (a := c) (b := 256 * m) (i := 8)
    simp only [Nat.shiftRight_eq_div_pow] at h
    have h1 : (256 * m) / 2 ^ 8 = m := by omega
    have h2 : c / 2 ^ 8 = 0 := by omega
    rw [h1, h2, Nat.zero_xor] at h
    exact h
theorem le_inj : ∀ (a b : List Nat), a.length = b.length → (∀ x ∈ a, x < 256) → (∀ x ∈ b, x < 256) → le a = le b → a = b := by
  intro a
  induction a with
  | nil => intro b hl _ _ _; cases b with | nil => rfl | cons _ _ => simp at hl
  | cons c a ih =>
    intro b hl ha hb he
    cases b with
    | nil => simp at hl
    | cons d b =>
      rw [le, le] at he
      obtain ⟨p1, p2⟩ := xor_parts c (le a) (ha c List.mem_cons_self)
      obtain ⟨q1, q2⟩ := xor_parts d (le b) (hb d List.mem_cons_self)
      rw [he] at p1 p2
      have e1 : c = d := p1.symm.trans q1
      have e2 : le a = le b := p2.symm.trans q2
      rw [e1, ih b (by simpa using hl) (fun x hx => ha x (List.mem_cons_of_mem _ hx)) (fun x hx => hb x (List.mem_cons_of_mem _ hx)) e2]
theorem le_lt (l : List Nat) (hl : ∀ x ∈ l, x < 256) : le l < 2 ^ (8 * l.length) := by
  induction l with
  | nil => simp [le]
  | cons c l ih =>
    rw [le]
    have h1 := ih (fun x hx => hl x (List.mem_cons_of_mem _ hx))
    have hc := hl c List.mem_cons_self
    have e : 8 * (c :: l).length = 8 * l.length + 8 := by simp [Nat.mul_add]
    rw [e]
    apply Nat.xor_lt_two_pow
    · exact Nat.lt_of_lt_of_le hc (by rw [Nat.pow_add]; exact Nat.le_mul_of_pos_left _ (Nat.two_pow_pos _))
    · rw [Nat.pow_add]; omega
def sizeN (a0 : Bool) : Nat := if a0 = true then 4 else 2
def goodN (a0 : Bool) : Nat := if a0 = true then 3736805603 else 61624
def trailerN (a0 : Bool) (B : List Nat) : List Nat := bytesLE (sumN a0 B) (sizeN a0)
theorem trailerN_length (a0 : Bool) (B : List Nat) : (trailerN a0 B).length = sizeN a0 := bytesLE_length _ _
theorem trailerN_lt (a0 : Bool) (B : List Nat) : ∀ x ∈ trailerN a0 B, x < 256 := bytesLE_lt _ _
theorem le_trailerN (a0 : Bool) (B : List Nat) (hB : ∀ x ∈ B, x < 256) : le (trailerN a0 B) = sumN a0 B := by
  apply le_bytesLE
  have h := sum_lt a0 B hB
  cases a0 <;> simpa [sizeN, widthOf] using h
theorem width_pow (a0 : Bool) : widthOf a0 = 2 ^ (8 * sizeN a0) := by cases a0 <;> decide
theorem it_good (a0 : Bool) : it (polyOf a0) (8 * sizeN a0) (widthOf a0 - 1) = goodN a0 := by cases a0 <;> decide +kernel
theorem poly_bounds (a0 : Bool) : 2 ^ (8 * sizeN a0 - 1) ≤ polyOf a0 ∧ polyOf a0 < 2 ^ (8 * sizeN a0 - 1 + 1) := by cases a0 <;> decide
theorem width_pow' (a0 : Bool) : widthOf a0 = 2 ^ (8 * sizeN a0 - 1 + 1) := by cases a0 <;> decide
theorem residue (a0 : Bool) (A T : List Nat) (hA : ∀ x ∈ A, x < 256) (hT : ∀ x ∈ T, x < 256) (hl : T.length = sizeN a0) :
    more (polyOf a0) (widthOf a0 - 1) (A ++ T) = goodN a0 ↔ T = trailerN a0 A := by
  have hw1 : widthOf a0 - 1 < widthOf a0 := by cases a0 <;> decide
  have hm := more_lt a0 (widthOf a0 - 1) hw1 A hA
  rw [more_append, more_eq, hl, ← it_good]
  have hle : le T < widthOf a0 := by rw [width_pow, ← hl]; exact le_lt T hT
  constructor
  · intro h
    have h1 := it_inj (8 * sizeN a0) (poly_bounds a0).1 (poly_bounds a0).2 (by rw [← width_pow']; rw [width_pow] at hm hle ⊢; exact Nat.xor_lt_two_pow hm hle) (by rw [← width_pow']; exact hw1) h
    have h2 : le T = sumN a0 A := by
      unfold sumN
      generalize more (polyOf a0) (widthOf a0 - 1) A = m at h1 ⊢
      generalize widthOf a0 - 1 = W at h1 ⊢
      rw [← h1]
      rw [← Nat.xor_assoc, Nat.xor_self, Nat.zero_xor]
    exact le_inj _ _ (by rw [hl, trailerN_length]) hT (trailerN_lt _ _) (by rw [h2, le_trailerN a0 A hA])
  · intro h
    rw [h, le_trailerN a0 A hA]
    unfold sumN
    rw [← Nat.xor_assoc, Nat.xor_self, Nat.zero_xor]
def goodB (a0 : Bool) (B : List Nat) : Bool := decide (sizeN a0 ≤ B.length) && decide (more (polyOf a0) (widthOf a0 - 1) B = goodN a0)
theorem goodB_iff (a0 : Bool) (B : List Nat) (hB : ∀ x ∈ B, x < 256) (h : sizeN a0 ≤ B.length) :
    goodB a0 B = decide (B.drop (B.length - sizeN a0) = trailerN a0 (B.take (B.length - sizeN a0))) := by
  have e := residue a0 (B.take (B.length - sizeN a0)) (B.drop (B.length - sizeN a0)) (fun x hx => hB x (List.mem_of_mem_take hx)) (fun x hx => hB x (List.mem_of_mem_drop hx)) (by rw [List.length_drop]; omega)
  rw [List.take_append_drop] at e
  simp [goodB, h, e]
end Go.Proofs.YtggpejjfgphihaaDoor.Pu
end

section
namespace Go.Proofs.YtggpejjfgphihaaDoor.D
open Go.Proofs.YtggpejjfgphihaaDoor.Given Go.RowKit Go.Proofs.YtggpejjfgphihaaDoorW.PrintWords Go.Proofs.YtggpejjfgphihaaDoorW.PrintLast Go.Proofs.YtggpejjfgphihaaDoorW.PrintMore
attribute [local go_sem] max2_int min2_int max_two min_two max_three min_three max_four min_four
set_option linter.unusedVariables false
set_option linter.unusedSimpArgs false
def fcs_Trailer.l0 : Nat → Int → List Int → Int → Int → Option (List Int)
  | 0, _, _, _, _ => none
  | k + 1, x5, x6, x13, x14 => if x14 < x13 then (if 0 ≤ (wrap64 (8 * x14)) then (if x6.length < 140737488355328 then (fcs_Trailer.l0 k x5 (x6 ++ [(shr .u32 x5 (wrap64 (8 * x14))) % 256]) x13 (wrap64 (x14 + 1))) else (none)) else (none)) else (some x6)
def fcs_Trailer.f (k : Nat) (a0 : Bool) (l1 : List Int) : Option (List Int) := (fcs_Sum.f a0 l1).bind fun t132 => ((fcs_of.f a0).bind fun bt133 => (fcs_Trailer.l0 k t132 ([] : List Int) bt133.2.2.2 0))
set_option maxHeartbeats 8000000 in
set_option maxRecDepth 100000 in
theorem fcs_Trailer.calls (k : Nat) (a0 : Bool) (A1 : Option Addr) (c1 : Nat) (l1 : List Int) (r : List Int) (w : World) (hr1 : Kd.C (Kd.int .u8) w A1 l1.length l1) (hc1 : l1.length ≤ c1) (hgF : GF w) (h : fcs_Trailer.f k a0 l1 = some r) :
    Calls Tryd.prog 40 #[.bool a0, .slice A1 l1.length c1] w fun e w' => ∃ v0_ : Value, e = .returned (v0_) ∧ Kd.R (Kd.int .u8) 5 w' w.heap.size (fun _ => True) v0_ r ∧ Below w.heap.size w w' := by
  have hfd80_3 : ∀ (v0_ v1_ v2_ v3_ : Value) (W_ : World), (Instr.field 80 (.agg #[v0_, v1_, v2_, v3_]) 3).run Tryd.prog W_ = .ok v3_ W_ := fun _ _ _ _ _ => by kernel_rfl
  have HGF := Aside0.mk hgF
  clear hgF
  have HR1 := Aside0.mk hr1
  have HC1 := Aside0.mk hc1
  clear hr1 hc1
  have HB := Aside0.mk (Below.refl w.heap.size w)
  have H : ((fcs_Sum.f a0 l1).bind fun t132 => ((fcs_of.f a0).bind fun bt133 => (fcs_Trailer.l0 k t132 ([] : List Int) bt133.2.2.2 0))) = some r := h
  clear h
  replace H := Option.bind_eq_some_iff.mp H
  obtain ⟨t132, A30, H⟩ := H
  replace H : ((fcs_of.f a0).bind fun bt133 => (fcs_Trailer.l0 k t132 ([] : List Int) bt133.2.2.2 0)) = some r := H
  have A3 := Aside0.mk A30
  clear A30
  replace H := Option.bind_eq_some_iff.mp H
  obtain ⟨⟨t133, t134, t135, t136⟩, A40, H⟩ := H
  replace H : (fcs_Trailer.l0 k t132 ([] : List Int) t136 0) = some r := H
  have A4 := Aside0.mk A40
  clear A40
  have H' := Aside0.mk H
  clear H
  go_enter Tryd.func40, Tryd.ntmps40
  go_wp2_with (first | ((with_reducible refine gate_callee (f := 27) rfl ?_); refine goesL_ (some 10) rfl rfl Tryd.func27 (by kernel_rfl) rfl #[.bool a0, .slice A1 l1.length c1] rfl (by (try simp only [List.map_toArray, List.map_cons, List.map_nil]); first | done | rfl | (simp only [List.length_drop, List.length_take]; rfl)) ?_; (with_reducible refine (fcs_Sum.calls a0 _ _ l1 t132 _ ?side1 ?side2 ?side3 A3.out).mono ?_); (case side1 => repeat (first | exact HR1.out | (with_reducible refine Kd.C_alloc ?_ _) | (with_reducible refine Kd.C_drewN ?_ _) | (with_reducible refine Kd.C_drew ?_))); (case side2 => exact HC1.out); (case side3 => repeat (first | exact HGF.out | (with_reducible refine GF_alloc ?_ _) | (with_reducible refine GF_drewN ?_ _) | (with_reducible refine GF_drew ?_))); rintro e w5 ⟨rfl, hb⟩; refine ⟨_, rfl, ?_⟩; have n0_ := Aside0.mk (below_step (by repeat (first | (with_reducible first | exact HB.out | apply below_alloc | apply pw_below_drewN | apply below_drew1) | exact HB.out)) hb); clear HB; have HB := n0_; clear n0_; (try clear hb); (try clear hb2); (try clear hk); (try clear hi)) | ((with_reducible refine gate_callee (f := 56) rfl ?_); refine goesL_ (some 12) rfl rfl Tryd.func56 (by kernel_rfl) rfl #[.bool a0] rfl (by (try simp only [List.map_toArray, List.map_cons, List.map_nil]); first | done | rfl | (simp only [List.length_drop, List.length_take]; rfl)) ?_; (with_reducible refine (fcs_of.calls a0 t133 t134 t135 t136 _ ?side1 A4.out).mono ?_); (case side1 => repeat (first | exact (GF_below HGF.out HB.out) | (with_reducible refine GF_alloc ?_ _) | (with_reducible refine GF_drewN ?_ _) | (with_reducible refine GF_drew ?_))); rintro e w6 ⟨rfl, hb⟩; refine ⟨_, rfl, ?_⟩; have n0_ := Aside0.mk (below_step (by repeat (first | (with_reducible first | exact HB.out | apply below_alloc | apply pw_below_drewN | apply below_drew1) | exact HB.out)) hb); clear HB; have HB := n0_; clear n0_; (try clear hb); (try clear hb2); (try clear hk); (try clear hi)))
  go_loopg [6, 14] k (fun kq v6 v14 w' => ∃ (x6_1 : List Int) (x14_1 : Int), v14 = .int .i64 x14_1 ∧ Aside0 (fcs_Trailer.l0 kq t132 x6_1 t136 x14_1 = some r) ∧ Aside0 (kq ≤ k) ∧ Aside0 (Kd.R (Kd.int .u8) 5 w' w.heap.size (fun _ => True) v6 x6_1) ∧ Aside0 (Below w.heap.size w w'))
  case atStart => exact ⟨(([] : List Int)), (0), (by first | rfl | (simp; done) | (simp [*]; done)), H', ⟨Nat.le_refl _⟩, ⟨by first | exact Kd.R_nil _ _ _ _ _ | exact Kd.N_nil _ _ _ _ _ | exact Kd.V_nil _ _ _ _ _ | exact Kd.Q_nil _ _ _ _ _ | exact Kd.S_nil _ _ _ _ _⟩, ⟨by repeat (first | (with_reducible first | exact HB.out | apply below_alloc | apply pw_below_drewN | apply below_drew1) | exact HB.out)⟩⟩
  case round =>
    clear H'
    try clear c1
    try clear c2
    try clear p2
    try clear c4
    try clear c5
    obtain ⟨x6_1, x14_1, rfl, HA, HK1, HO_6, HB⟩ := hrel
    cases gk with
    | zero => exact absurd HA.out (by simp [fcs_Trailer.l0])
    | succ k1 =>
      have H := HA.out
      clear HA
      simp only [fcs_Trailer.l0] at H
      by_cases c7 : x14_1 < t136
      · rw [if_pos c7] at H
        have c7b0 : decide (x14_1 < t136) = true := decide_eq_true c7
        clear c7
        obtain ⟨ji8, hji8⟩ : ∃ j_ : Int, (wrap64 (8 * x14_1)) = j_ := ⟨_, rfl⟩
        replace H : (if 0 ≤ (ji8) then (if x6_1.length < 140737488355328 then (fcs_Trailer.l0 k1 t132 (x6_1 ++ [(shr .u32 t132 (ji8)) % 256]) t136 (wrap64 (x14_1 + 1))) else (none)) else (none)) = some r := by first | (rw [hji8] at H; exact H) | (simp only [hji8] at H ⊢; exact H)
        have hji8w : (IntKind.i64.wrap (8 * x14_1)) = ji8 := (i64_w _).trans hji8
        by_cases c9 : 0 ≤ (ji8)
        · rw [if_pos c9] at H
          have c9b0 := eq_true c9
          have c9b1 : decide (0 ≤ (ji8)) = true := decide_eq_true c9
          clear c9
          obtain ⟨ji10, hji10⟩ : ∃ j_ : Int, (shr .u32 t132 (ji8)) = j_ := ⟨_, rfl⟩
          replace H : (if x6_1.length < 140737488355328 then (fcs_Trailer.l0 k1 t132 (x6_1 ++ [(ji10) % 256]) t136 (wrap64 (x14_1 + 1))) else (none)) = some r := by first | (rw [hji10] at H; exact H) | (simp only [hji10] at H ⊢; exact H)
          have hji10_ : (t132 / 2 ^ min (ji8).toNat 32) = ji10 := hji10
          have hji10z : (ji8) ≤ 32 → (t132 / 2 ^ (ji8).toNat) = ji10 := shr_small hji10
          by_cases c11 : x6_1.length < 140737488355328
          · rw [if_pos c11] at H
            have LMc11 := Aside0.mk c11
            clear c11
            obtain ⟨y137, hy137⟩ : ∃ y_ : List Int, y_ = (x6_1 ++ [(ji10) % 256]) := ⟨_, rfl⟩
            replace H : (fcs_Trailer.l0 k1 t132 y137 t136 (wrap64 (x14_1 + 1))) = some r := by first | (rw [hy137]; with_reducible exact H) | (have H2_ := (Option.bind_some _ _).symm.trans H; rw [hy137]; with_reducible exact H2_) | (have H2_ := (Option.bind_some _ _).symm.trans H; with_reducible exact H2_) | with_reducible exact H | (rw [hy137]; exact H) | exact H
            have Ny137 := Aside0.mk hy137
            clear hy137
            have H' := Aside0.mk H
            clear H
            go_wp2_with (first | ((with_reducible refine gate_builtin (b := .append) (xs := #[.tmp 17, .tmp 23]) rfl ?_); at_builtin; refine Kd.R_append (Kd.int .u8) (w0 := w) w.heap.size rfl (.tmp 17) (.tmp 23) 35 5 (.int .u8 0) 1 rfl Tryd.underlying35 info5 rfl (by decide) (by omega) u6 x6_1 ((ji10) % 256) [.int .u8 ((ji10) % 256)] (fun _ => True) (fun _ => False) rfl rfl ?aP (fun _ hk => hk.elim) ?aF ?aO ?aB ?aS ?aL ?_; (case aP => exact rfl); (case aB => exact (by repeat (first | (with_reducible first | exact HB.out | apply below_alloc | apply pw_below_drewN | apply below_drew1) | exact HB.out))); (case aF => exact (fun _ _ => trivial)); (case aO => exact (by (with_reducible repeat (first | apply Kd.R_alloc | apply Kd.R_drewN | apply Kd.R_drew)); exact HO_6.out)); (case aS => exact (below_size (by repeat (first | (with_reducible first | exact HB.out | apply below_alloc | apply pw_below_drewN | apply below_drew1) | exact HB.out)))); (case aL => have := LMc11.out; omega); intro v138 w12 ho hb hg hat; rw [← Ny137.out] at ho; have n0_ := Aside0.mk (hb); have n1_ := Aside0.mk (ho); clear HB; clear HO_6; have HB := n0_; have HO139 := n1_; clear n0_ n1_; clear ho hb hg hat))
            go_roundg k1
            case measure => have := HK1.out; omega
            case rel => exact ⟨(y137), (wrap64 (x14_1 + 1)), (by first | rfl | (simp; done) | (simp [*]; done)), H', ⟨by have := HK1.out; omega⟩, ⟨by (with_reducible repeat (first | apply Kd.R_alloc | apply Kd.R_drewN | apply Kd.R_drew)); exact HO139.out⟩, ⟨by repeat (first | (with_reducible first | exact HB.out | apply below_alloc | apply pw_below_drewN | apply below_drew1) | exact HB.out)⟩⟩
          · rw [if_neg c11] at H
            exact absurd H (by simp)
        · rw [if_neg c9] at H
          exact absurd H (by simp)
      · rw [if_neg c7] at H
        have c7b0 : decide (x14_1 < t136) = false := decide_eq_false c7
        clear c7
        obtain rfl := Option.some.inj H
        go_wp2
        go_ret
        exact ⟨_, by first | rfl | (simp [errW_none, errW_some] <;> rfl) | (simp [*, errW_none, errW_some] <;> rfl), by (with_reducible repeat (first | apply Kd.R_alloc | apply Kd.R_drewN | apply Kd.R_drew)); exact HO_6.out, by repeat (first | (with_reducible first | exact HB.out | apply below_alloc | apply pw_below_drewN | apply below_drew1) | exact HB.out)⟩
def fcs_Good.f (a0 : Bool) (l1 : List Int) : Option (Bool) := (fcs_of.f a0).bind fun bt140 => (if (l1.length : Int) ≥ bt140.2.2.2 then ((fcs_More.f a0 bt140.2.1 l1).bind fun t145 => (some (t145 == bt140.2.2.1))) else (some false))
def fcs_Good.T2 : Bool × List (List Nat × List Nat) := (true, [([], []), ([0], [0]), ([], []), ([2], [2]), ([1, 3], [1, 3]), ([4], [4]), ([5], [5]), ([5], [5]), ([7, 5], [5, 7]), ([5], [5]), ([6, 8, 9, 5, 5], [5, 6, 8, 9]), ([5], [5]), ([11, 5], [5, 11]), ([10, 12, 5], [5, 10, 12]), ([5, 13], [5, 13]), ([14, 10, 0, 1, 2, 3, 4, 5, 6, 7, 8, 9, 10, 11, 12, 13, 14], [14])])
def fcs_Good.B2 : List Nat := [0, 1, 0, 4, 15, 31, 63, 63, 191, 63, 1023, 63, 2111, 8191, 16383, 32767]
theorem fcs_Good.tab2 : rtab .any (opsOf Tryd.f42 2) = fcs_Good.T2 := by kernel_rfl
theorem fcs_Good.bits2 : waitsOk fcs_Good.T2.2 fcs_Good.B2 = true := by kernel_rfl
set_option maxHeartbeats 8000000 in
set_option maxRecDepth 100000 in
theorem fcs_Good.calls (a0 : Bool) (A1 : Option Addr) (c1 : Nat) (l1 : List Int) (r : Bool) (w : World) (hr1 : Kd.C (Kd.int .u8) w A1 l1.length l1) (hc1 : l1.length ≤ c1) (hgF : GF w) (h : fcs_Good.f a0 l1 = some r) :
    Calls Tryd.prog 42 #[.bool a0, .slice A1 l1.length c1] w fun e w' => e = .returned (.bool r) ∧ Below w.heap.size w w' := by
  have hu80 := Tryd.underlying80
  have HGF := Aside0.mk hgF
  clear hgF
  have HR1 := Aside0.mk hr1
  have HC1 := Aside0.mk hc1
  clear hr1 hc1
  have HB := Aside0.mk (Below.refl w.heap.size w)
  have H : ((fcs_of.f a0).bind fun bt140 => (if (l1.length : Int) ≥ bt140.2.2.2 then ((fcs_More.f a0 bt140.2.1 l1).bind fun t145 => (some (t145 == bt140.2.2.1))) else (some false))) = some r := h
  clear h
  replace H := Option.bind_eq_some_iff.mp H
  obtain ⟨⟨t140, t141, t142, t143⟩, A30, H⟩ := H
  replace H : (if (l1.length : Int) ≥ t143 then ((fcs_More.f a0 t141 l1).bind fun t145 => (some (t145 == t142))) else (some false)) = some r := H
  have A3 := Aside0.mk A30
  clear A30
  by_cases c4 : (l1.length : Int) ≥ t143
  · rw [if_pos c4] at H
    have c4b0 : decide (t143 ≤ (l1.length : Int)) = true := decide_eq_true c4
    clear c4
    replace H := Option.bind_eq_some_iff.mp H
    obtain ⟨t145, A50, H⟩ := H
    replace H : (some (t145 == t142)) = some r := H
    have A5 := Aside0.mk A50
    clear A50
    obtain rfl := Option.some.inj H
    go_enter Tryd.func42, Tryd.ntmps42
    try go_wp2_with (first | ((with_reducible refine gate_callee (f := 56) rfl ?_); refine goesL_ (some 7) rfl rfl Tryd.func56 (by kernel_rfl) rfl #[.bool a0] rfl (by (try simp only [List.map_toArray, List.map_cons, List.map_nil]); first | done | rfl | (simp only [List.length_drop, List.length_take]; rfl)) ?_; (with_reducible refine (fcs_of.calls a0 t140 t141 t142 t143 _ ?side1 A3.out).mono ?_); (case side1 => repeat (first | exact HGF.out | (with_reducible refine GF_alloc ?_ _) | (with_reducible refine GF_drewN ?_ _) | (with_reducible refine GF_drew ?_))); rintro e w6 ⟨rfl, hb⟩; refine ⟨_, rfl, ?_⟩; have n0_ := Aside0.mk (below_step (by repeat (first | (with_reducible first | exact HB.out | apply below_alloc | apply pw_below_drewN | apply below_drew1) | exact HB.out)) hb); clear HB; have HB := n0_; clear n0_; (try clear hb); (try clear hb2); (try clear hk); (try clear hi)) | ((with_reducible refine gate_dst (N := 5) rfl ?_); refine box_event ?hg (N := 5) ?hd (cs := #[.int .u32 0, .int .u32 0, .int .u32 0, .int .i64 0]) (t := 80) ?hr ?_; (case hd => rfl); (case hg => rfl); (case hr => first | (go_simp; done) | (go_simp; rfl)); intro gb144 hg w7 hbox hb; have n0_ := Aside0.mk (below_step (by repeat (first | (with_reducible first | exact HB.out | apply below_alloc | apply pw_below_drewN | apply below_drew1) | exact HB.out)) hb); have n1_ := Aside0.mk (hbox); have n2_ := Aside0.mk ((by rw [hg]; exact (below_size (by repeat (first | (with_reducible first | exact HB.out | apply below_alloc | apply pw_below_drewN | apply below_drew1) | exact HB.out))) : w.heap.size ≤ gb144)); have n3_ := Aside0.mk ((by rw [hg]; exact (below_size (by repeat (first | (with_reducible first | exact HB.out | apply below_alloc | apply pw_below_drewN | apply below_drew1) | exact HB.out))) : w.heap.size ≤ gb144)); clear HB; have HB := n0_; have BK144 := n1_; have GW144 := n2_; have GE144 := n3_; clear n0_ n1_ n2_ n3_; clear hb hbox hg; have hcz8_0 : w7.cell? ⟨gb144, 0, none⟩ = some (.int .u32 0) := (blk_cell BK144.out 0).trans rfl; have hcz8_1 : w7.cell? ⟨gb144, 1, none⟩ = some (.int .u32 0) := (blk_cell BK144.out 1).trans rfl; have hcz8_2 : w7.cell? ⟨gb144, 2, none⟩ = some (.int .u32 0) := (blk_cell BK144.out 2).trans rfl; have hcz8_3 : w7.cell? ⟨gb144, 3, none⟩ = some (.int .i64 0) := (blk_cell BK144.out 3).trans rfl; have hfz8_0 := blk_frozen BK144.out 0; have hfz8_1 := blk_frozen BK144.out 1; have hfz8_2 := blk_frozen BK144.out 2; have hfz8_3 := blk_frozen BK144.out 3))
    have n0_ : Aside0 (((((w7.setCell ⟨gb144, 0, none⟩ (.int .u32 t140)).setCell ⟨gb144, 1, none⟩ (.int .u32 t141)).setCell ⟨gb144, 2, none⟩ (.int .u32 t142)).setCell ⟨gb144, 3, none⟩ (.int .i64 t143)).heap[gb144]? = some (.cells #[.int .u32 t140, .int .u32 t141, .int .u32 t142, .int .i64 t143] 80 (0, 0))) := ⟨by (with_reducible repeat (first | refine blk_drewN ?_ _ | refine blk_drew ?_ | refine blk_alloc ?_ _)); refine blk_put (cs := #[.int .u32 t140, .int .u32 t141, .int .u32 t142, .int .i64 0]) ?_ 3 _ rfl; (with_reducible repeat (first | refine blk_drewN ?_ _ | refine blk_drew ?_ | refine blk_alloc ?_ _)); refine blk_put (cs := #[.int .u32 t140, .int .u32 t141, .int .u32 0, .int .i64 0]) ?_ 2 _ rfl; (with_reducible repeat (first | refine blk_drewN ?_ _ | refine blk_drew ?_ | refine blk_alloc ?_ _)); refine blk_put (cs := #[.int .u32 t140, .int .u32 0, .int .u32 0, .int .i64 0]) ?_ 1 _ rfl; (with_reducible repeat (first | refine blk_drewN ?_ _ | refine blk_drew ?_ | refine blk_alloc ?_ _)); refine blk_put (cs := #[.int .u32 0, .int .u32 0, .int .u32 0, .int .i64 0]) ?_ 0 _ rfl; (with_reducible repeat (first | refine blk_drewN ?_ _ | refine blk_drew ?_ | refine blk_alloc ?_ _)); exact BK144.out⟩
    have n1_ : Aside0 (Below w.heap.size w ((((w7.setCell ⟨gb144, 0, none⟩ (.int .u32 t140)).setCell ⟨gb144, 1, none⟩ (.int .u32 t141)).setCell ⟨gb144, 2, none⟩ (.int .u32 t142)).setCell ⟨gb144, 3, none⟩ (.int .i64 t143))) := ⟨by repeat (first | (with_reducible first | exact HB.out | apply below_alloc | apply pw_below_drewN | apply below_drew1 | refine below_set ?_ GE144.out) | exact HB.out)⟩
    (try clear BK144)
    (try clear HB)
    generalize ((((w7.setCell ⟨gb144, 0, none⟩ (.int .u32 t140)).setCell ⟨gb144, 1, none⟩ (.int .u32 t141)).setCell ⟨gb144, 2, none⟩ (.int .u32 t142)).setCell ⟨gb144, 3, none⟩ (.int .i64 t143)) = w9 at n0_ n1_ ⊢
    have BK144 := n0_
    have HB := n1_
    clear n0_ n1_
    have n0_ := Aside0.mk (blk_drew BK144.out)
    have n1_ := Aside0.mk (below_drew1 HB.out)
    clear BK144
    clear HB
    have BK144 := n0_
    have HB := n1_
    clear n0_ n1_
    refine start_ (n := 16) (S := fun w' => w'.cell? ⟨gb144, 0, none⟩ = some (.int .u32 t140) ∧ w'.cell? ⟨gb144, 1, none⟩ = some (.int .u32 t141) ∧ w'.cell? ⟨gb144, 2, none⟩ = some (.int .u32 t142) ∧ w'.cell? ⟨gb144, 3, none⟩ = some (.int .i64 t143)) (ds := []) #[false, false, false, false, false, false, false, false, false, false, false, false, false, false, false, false] (by kernel_rfl) rfl rfl ⟨(blk_cell BK144.out 0).trans rfl, (blk_cell BK144.out 1).trans rfl, (blk_cell BK144.out 2).trans rfl, (blk_cell BK144.out 3).trans rfl⟩ (fun hHeld => ?_); refine with_tabW fcs_Good.tab2 fcs_Good.bits2 (fun HT_ HW_ => ?_)
    generalize w9.drew = w10 at BK144 HB hHeld ⊢
    refine pure_ (i := 0) (N := some 8) (v := ?_) (a' := ?_) #[true, false, false, false, false, false, false, false, false, false, false, false, false, false, false, false] rfl rfl (any_of HT_.out (by kernel_rfl)) (fun _ _ _ h => h) (Or.inl ⟨by rfl, ?_⟩) ?_ ?_
    rotate_left
    · intro w'
      go_simp
      with_reducible rfl
    rotate_left
    · simp only [Act.put, List.setIfInBounds_toArray, List.set_cons_zero, List.set_cons_succ, i64_w, i32_w]
      rfl
    refine pure_ (i := 1) (N := some 9) (v := ?_) (a' := ?_) #[true, true, false, false, false, false, false, false, false, false, false, false, false, false, false, false] rfl rfl (any_of HT_.out (by kernel_rfl)) (fun _ _ _ h => h) (Or.inl ⟨by rfl, ?_⟩) ?_ ?_
    rotate_left
    · intro w'
      go_simp
      with_reducible rfl
    rotate_left
    · simp only [Act.put, List.setIfInBounds_toArray, List.set_cons_zero, List.set_cons_succ, i64_w, i32_w]
      rfl
    refine pure_ (i := 2) (N := some 10) (v := ?_) (a' := ?_) #[true, true, true, false, false, false, false, false, false, false, false, false, false, false, false, false] rfl rfl (any_of HT_.out (by kernel_rfl)) (fun _ _ _ h => h) (Or.inl ⟨by rfl, ?_⟩) ?_ ?_
    rotate_left
    · intro w'
      go_simp
      with_reducible rfl
    rotate_left
    · simp only [Act.put, List.setIfInBounds_toArray, List.set_cons_zero, List.set_cons_succ, i64_w, i32_w]
      rfl
    refine take_ (i := 3) (N := some 11) (v := ?_) (a' := ?_) #[true, true, true, true, false, false, false, false, false, false, false, false, false, false, false, false] rfl rfl (take_ofW HT_.out HW_.out (by kernel_rfl)) (fun _ _ _ h => h) (Or.inl ⟨by rfl, ?_⟩) hHeld ?_ ?_
    rotate_left
    · rintro w' ⟨s0, s1, s2, s3⟩
      go_simp
      with_reducible rfl
    rotate_left
    · simp only [Act.put, List.setIfInBounds_toArray, List.set_cons_zero, List.set_cons_succ, i64_w, i32_w]
      rfl
    refine pure_ (i := 4) (N := some 12) (v := ?_) (a' := ?_) #[true, true, true, true, true, false, false, false, false, false, false, false, false, false, false, false] rfl rfl (any_of HT_.out (by kernel_rfl)) (fun _ _ _ h => h) (Or.inl ⟨by rfl, ?_⟩) ?_ ?_
    rotate_left
    · intro w'
      go_simp
      with_reducible rfl
    rotate_left
    · simp only [Act.put, List.setIfInBounds_toArray, List.set_cons_zero, List.set_cons_succ, i64_w, i32_w]
      rfl
    refine pure_ (i := 5) (N := some 13) (v := ?_) (a' := ?_) #[true, true, true, true, true, true, false, false, false, false, false, false, false, false, false, false] rfl rfl (any_of HT_.out (by kernel_rfl)) (fun _ _ _ h => h) (Or.inl ⟨by rfl, ?_⟩) ?_ ?_
    rotate_left
    · intro w'
      go_simp
      with_reducible rfl
    rotate_left
    · simp only [Act.put, List.setIfInBounds_toArray, List.set_cons_zero, List.set_cons_succ, i64_w, i32_w]
      rfl
    refine pure_ (i := 6) (N := some 14) (v := ?_) (a' := ?_) #[true, true, true, true, true, true, true, false, false, false, false, false, false, false, false, false] rfl rfl (any_of HT_.out (by kernel_rfl)) (fun _ _ _ h => h) (Or.inl ⟨by rfl, ?_⟩) ?_ ?_
    rotate_left
    · intro w'
      go_simp
      with_reducible rfl
    rotate_left
    · simp only [Act.put, List.setIfInBounds_toArray, List.set_cons_zero, List.set_cons_succ, i64_w, i32_w]
      rfl
    refine pure_ (i := 7) (N := some 15) (v := ?_) (a' := ?_) #[true, true, true, true, true, true, true, true, false, false, false, false, false, false, false, false] rfl rfl (any_of HT_.out (by kernel_rfl)) (fun _ _ _ h => h) (Or.inl ⟨by rfl, ?_⟩) ?_ ?_
    rotate_left
    · intro w'
      go_simp
      with_reducible rfl
    rotate_left
    · simp only [Act.put, List.setIfInBounds_toArray, List.set_cons_zero, List.set_cons_succ, i64_w, i32_w]
      rfl
    refine pure_ (i := 9) (N := some 17) (v := ?_) (a' := ?_) #[true, true, true, true, true, true, true, true, false, true, false, false, false, false, false, false] rfl rfl (any_of HT_.out (by kernel_rfl)) (fun _ _ _ h => h) (Or.inl ⟨by rfl, ?_⟩) ?_ ?_
    rotate_left
    · intro w'
      go_simp
      with_reducible rfl
    rotate_left
    · simp only [Act.put, List.setIfInBounds_toArray, List.set_cons_zero, List.set_cons_succ, i64_w, i32_w]
      rfl
    refine pure_ (i := 11) (N := some 19) (v := ?_) (a' := ?_) #[true, true, true, true, true, true, true, true, false, true, false, true, false, false, false, false] rfl rfl (any_of HT_.out (by kernel_rfl)) (fun _ _ _ h => h) (Or.inl ⟨by rfl, ?_⟩) ?_ ?_
    rotate_left
    · intro w'
      go_simp
      with_reducible rfl
    rotate_left
    · simp only [Act.put, List.setIfInBounds_toArray, List.set_cons_zero, List.set_cons_succ, i64_w, i32_w]
      rfl
    refine take_ (i := 8) (N := some 16) (v := ?_) (a' := ?_) #[true, true, true, true, true, true, true, true, true, true, false, true, false, false, false, false] rfl rfl (take_ofW HT_.out HW_.out (by kernel_rfl)) (fun _ _ _ h => h) (Or.inl ⟨by rfl, ?_⟩) hHeld ?_ ?_
    rotate_left
    · rintro w' ⟨s0, s1, s2, s3⟩
      go_simp
      with_reducible rfl
    rotate_left
    · simp only [Act.put, List.setIfInBounds_toArray, List.set_cons_zero, List.set_cons_succ, i64_w, i32_w]
      rfl
    refine take_ (i := 12) (N := some 20) (v := ?_) (a' := ?_) #[true, true, true, true, true, true, true, true, true, true, false, true, true, false, false, false] rfl rfl (take_ofW HT_.out HW_.out (by kernel_rfl)) (fun _ _ _ h => h) (Or.inl ⟨by rfl, ?_⟩) hHeld ?_ ?_
    rotate_left
    · rintro w' ⟨s0, s1, s2, s3⟩
      go_simp
      with_reducible rfl
    rotate_left
    · simp only [Act.put, List.setIfInBounds_toArray, List.set_cons_zero, List.set_cons_succ, i64_w, i32_w]
      rfl
    refine one_ (i := 10) (N := some 18) #[true, true, true, true, true, true, true, true, true, true, true, true, true, false, false, false] rfl rfl (one_of HT_.out (by kernel_rfl)) (by decide) (fun K hK => ?_)
    refine goes_ Tryd.func37 (by kernel_rfl) rfl #[.bool a0, .int .u32 t141, .slice A1 l1.length c1] (by rfl) rfl rfl (by (try simp only [List.map_toArray, List.map_cons, List.map_nil]); first | done | rfl | (simp only [List.length_drop, List.length_take]; rfl)) ?_
    with_reducible refine (fcs_More.calls a0 t141 _ _ l1 t145 _ ?side1 ?side2 ?side3 A5.out).mono ?_
    (case side1 => repeat (first | exact (Kd.C_below HR1.out HB.out) | (with_reducible refine Kd.C_alloc ?_ _) | (with_reducible refine Kd.C_drewN ?_ _) | (with_reducible refine Kd.C_drew ?_)))
    (case side2 => exact HC1.out)
    (case side3 => repeat (first | exact (GF_below HGF.out HB.out) | (with_reducible refine GF_alloc ?_ _) | (with_reducible refine GF_drewN ?_ _) | (with_reducible refine GF_drew ?_)))
    rintro e w11 ⟨rfl, hb⟩
    refine ⟨_, rfl, ?_⟩
    have n0_ := Aside0.mk (blk_below (g := gb144) (o := .cells #[.int .u32 t140, .int .u32 t141, .int .u32 t142, .int .i64 t143] 80 (0, 0)) (by (with_reducible repeat (first | refine blk_drewN ?_ _ | refine blk_drew ?_ | refine blk_alloc ?_ _)); exact BK144.out) hb)
    have n1_ := Aside0.mk (below_step (by repeat (first | (with_reducible first | exact HB.out | apply below_alloc | apply pw_below_drewN | apply below_drew1 | refine below_set ?_ GE144.out) | exact HB.out)) hb)
    clear BK144
    clear HB
    have BK144 := n0_
    have HB := n1_
    clear n0_ n1_
    (try clear hb)
    (try clear hb2)
    (try clear hk)
    (try clear hi)
    refine hK.out _ _ ⟨(blk_cell BK144.out 0).trans rfl, (blk_cell BK144.out 1).trans rfl, (blk_cell BK144.out 2).trans rfl, (blk_cell BK144.out 3).trans rfl⟩ (fun hHeld => ?_)
    clear hK K
    refine norm_ (a' := ?_) ?_ ?_
    rotate_left
    · show Act.put _ (some 18) _ = _
      simp only [Act.put, List.setIfInBounds_toArray, List.set_cons_zero, List.set_cons_succ, i64_w, i32_w]
      rfl
    refine pure_ (i := 13) (N := some 21) (v := ?_) (a' := ?_) #[true, true, true, true, true, true, true, true, true, true, true, true, true, true, false, false] rfl rfl (any_of HT_.out (by kernel_rfl)) (fun _ _ _ h => h) (Or.inl ⟨by rfl, ?_⟩) ?_ ?_
    rotate_left
    · intro w'
      go_simp
      with_reducible rfl
    rotate_left
    · simp only [Act.put, List.setIfInBounds_toArray, List.set_cons_zero, List.set_cons_succ, i64_w, i32_w]
      rfl
    refine pure_ (i := 14) (N := some 22) (v := ?_) (a' := ?_) #[true, true, true, true, true, true, true, true, true, true, true, true, true, true, true, false] rfl rfl (any_of HT_.out (by kernel_rfl)) (fun _ _ _ h => h) (Or.inl ⟨by rfl, ?_⟩) ?_ ?_
    rotate_left
    · intro w'
      go_simp
      with_reducible rfl
    rotate_left
    · simp only [Act.put, List.setIfInBounds_toArray, List.set_cons_zero, List.set_cons_succ, i64_w, i32_w]
      rfl
    refine pure_ (i := 15) (N := some 4) (v := ?_) (a' := ?_) #[true, true, true, true, true, true, true, true, true, true, true, true, true, true, true, true] rfl rfl (any_of HT_.out (by kernel_rfl)) (fun _ _ _ h => h) (Or.inl ⟨by rfl, ?_⟩) ?_ ?_
    rotate_left
    · intro w'
      go_simp
      with_reducible rfl
    rotate_left
    · simp only [Act.put, List.setIfInBounds_toArray, List.set_cons_zero, List.set_cons_succ, i64_w, i32_w]
      rfl
    refine done_ (done_of HT_.out (by kernel_rfl)) ?_
    try go_wp2
    go_ret
    exact ⟨by first | rfl | (simp [errW_none, errW_some] <;> rfl) | (simp [*, errW_none, errW_some] <;> rfl), by repeat (first | (with_reducible first | exact HB.out | apply below_alloc | apply pw_below_drewN | apply below_drew1 | refine below_set ?_ GE144.out) | exact HB.out)⟩
  · rw [if_neg c4] at H
    have c4b0 : decide (t143 ≤ (l1.length : Int)) = false := decide_eq_false c4
    clear c4
    obtain rfl := Option.some.inj H
    go_enter Tryd.func42, Tryd.ntmps42
    try go_wp2_with (first | ((with_reducible refine gate_callee (f := 56) rfl ?_); refine goesL_ (some 7) rfl rfl Tryd.func56 (by kernel_rfl) rfl #[.bool a0] rfl (by (try simp only [List.map_toArray, List.map_cons, List.map_nil]); first | done | rfl | (simp only [List.length_drop, List.length_take]; rfl)) ?_; (with_reducible refine (fcs_of.calls a0 t140 t141 t142 t143 _ ?side1 A3.out).mono ?_); (case side1 => repeat (first | exact HGF.out | (with_reducible refine GF_alloc ?_ _) | (with_reducible refine GF_drewN ?_ _) | (with_reducible refine GF_drew ?_))); rintro e w12 ⟨rfl, hb⟩; refine ⟨_, rfl, ?_⟩; have n0_ := Aside0.mk (below_step (by repeat (first | (with_reducible first | exact HB.out | apply below_alloc | apply pw_below_drewN | apply below_drew1) | exact HB.out)) hb); clear HB; have HB := n0_; clear n0_; (try clear hb); (try clear hb2); (try clear hk); (try clear hi)) | ((with_reducible refine gate_dst (N := 5) rfl ?_); refine box_event ?hg (N := 5) ?hd (cs := #[.int .u32 0, .int .u32 0, .int .u32 0, .int .i64 0]) (t := 80) ?hr ?_; (case hd => rfl); (case hg => rfl); (case hr => first | (go_simp; done) | (go_simp; rfl)); intro gb144 hg w13 hbox hb; have n0_ := Aside0.mk (below_step (by repeat (first | (with_reducible first | exact HB.out | apply below_alloc | apply pw_below_drewN | apply below_drew1) | exact HB.out)) hb); have n1_ := Aside0.mk (hbox); have n2_ := Aside0.mk ((by rw [hg]; exact (below_size (by repeat (first | (with_reducible first | exact HB.out | apply below_alloc | apply pw_below_drewN | apply below_drew1) | exact HB.out))) : w.heap.size ≤ gb144)); have n3_ := Aside0.mk ((by rw [hg]; exact (below_size (by repeat (first | (with_reducible first | exact HB.out | apply below_alloc | apply pw_below_drewN | apply below_drew1) | exact HB.out))) : w.heap.size ≤ gb144)); clear HB; have HB := n0_; have BK144 := n1_; have GW144 := n2_; have GE144 := n3_; clear n0_ n1_ n2_ n3_; clear hb hbox hg; have hcz14_0 : w13.cell? ⟨gb144, 0, none⟩ = some (.int .u32 0) := (blk_cell BK144.out 0).trans rfl; have hcz14_1 : w13.cell? ⟨gb144, 1, none⟩ = some (.int .u32 0) := (blk_cell BK144.out 1).trans rfl; have hcz14_2 : w13.cell? ⟨gb144, 2, none⟩ = some (.int .u32 0) := (blk_cell BK144.out 2).trans rfl; have hcz14_3 : w13.cell? ⟨gb144, 3, none⟩ = some (.int .i64 0) := (blk_cell BK144.out 3).trans rfl; have hfz14_0 := blk_frozen BK144.out 0; have hfz14_1 := blk_frozen BK144.out 1; have hfz14_2 := blk_frozen BK144.out 2; have hfz14_3 := blk_frozen BK144.out 3))
    have n0_ : Aside0 (((((w13.setCell ⟨gb144, 0, none⟩ (.int .u32 t140)).setCell ⟨gb144, 1, none⟩ (.int .u32 t141)).setCell ⟨gb144, 2, none⟩ (.int .u32 t142)).setCell ⟨gb144, 3, none⟩ (.int .i64 t143)).heap[gb144]? = some (.cells #[.int .u32 t140, .int .u32 t141, .int .u32 t142, .int .i64 t143] 80 (0, 0))) := ⟨by (with_reducible repeat (first | refine blk_drewN ?_ _ | refine blk_drew ?_ | refine blk_alloc ?_ _)); refine blk_put (cs := #[.int .u32 t140, .int .u32 t141, .int .u32 t142, .int .i64 0]) ?_ 3 _ rfl; (with_reducible repeat (first | refine blk_drewN ?_ _ | refine blk_drew ?_ | refine blk_alloc ?_ _)); refine blk_put (cs := #[.int .u32 t140, .int .u32 t141, .int .u32 0, .int .i64 0]) ?_ 2 _ rfl; (with_reducible repeat (first | refine blk_drewN ?_ _ | refine blk_drew ?_ | refine blk_alloc ?_ _)); refine blk_put (cs := #[.int .u32 t140, .int .u32 0, .int .u32 0, .int .i64 0]) ?_ 1 _ rfl; (with_reducible repeat (first | refine blk_drewN ?_ _ | refine blk_drew ?_ | refine blk_alloc ?_ _)); refine blk_put (cs := #[.int .u32 0, .int .u32 0, .int .u32 0, .int .i64 0]) ?_ 0 _ rfl; (with_reducible repeat (first | refine blk_drewN ?_ _ | refine blk_drew ?_ | refine blk_alloc ?_ _)); exact BK144.out⟩
    have n1_ : Aside0 (Below w.heap.size w ((((w13.setCell ⟨gb144, 0, none⟩ (.int .u32 t140)).setCell ⟨gb144, 1, none⟩ (.int .u32 t141)).setCell ⟨gb144, 2, none⟩ (.int .u32 t142)).setCell ⟨gb144, 3, none⟩ (.int .i64 t143))) := ⟨by repeat (first | (with_reducible first | exact HB.out | apply below_alloc | apply pw_below_drewN | apply below_drew1 | refine below_set ?_ GE144.out) | exact HB.out)⟩
    (try clear BK144)
    (try clear HB)
    generalize ((((w13.setCell ⟨gb144, 0, none⟩ (.int .u32 t140)).setCell ⟨gb144, 1, none⟩ (.int .u32 t141)).setCell ⟨gb144, 2, none⟩ (.int .u32 t142)).setCell ⟨gb144, 3, none⟩ (.int .i64 t143)) = w15 at n0_ n1_ ⊢
    have BK144 := n0_
    have HB := n1_
    clear n0_ n1_
    have n0_ := Aside0.mk (blk_drew BK144.out)
    have n1_ := Aside0.mk (below_drew1 HB.out)
    clear BK144
    clear HB
    have BK144 := n0_
    have HB := n1_
    clear n0_ n1_
    refine start_ (n := 16) (S := fun w' => w'.cell? ⟨gb144, 0, none⟩ = some (.int .u32 t140) ∧ w'.cell? ⟨gb144, 1, none⟩ = some (.int .u32 t141) ∧ w'.cell? ⟨gb144, 2, none⟩ = some (.int .u32 t142) ∧ w'.cell? ⟨gb144, 3, none⟩ = some (.int .i64 t143)) (ds := []) #[false, false, false, false, false, false, false, false, false, false, false, false, false, false, false, false] (by kernel_rfl) rfl rfl ⟨(blk_cell BK144.out 0).trans rfl, (blk_cell BK144.out 1).trans rfl, (blk_cell BK144.out 2).trans rfl, (blk_cell BK144.out 3).trans rfl⟩ (fun hHeld => ?_); refine with_tabW fcs_Good.tab2 fcs_Good.bits2 (fun HT_ HW_ => ?_)
    generalize w15.drew = w16 at BK144 HB hHeld ⊢
    refine pure_ (i := 0) (N := some 8) (v := ?_) (a' := ?_) #[true, false, false, false, false, false, false, false, false, false, false, false, false, false, false, false] rfl rfl (any_of HT_.out (by kernel_rfl)) (fun _ _ _ h => h) (Or.inl ⟨by rfl, ?_⟩) ?_ ?_
    rotate_left
    · intro w'
      go_simp
      with_reducible rfl
    rotate_left
    · simp only [Act.put, List.setIfInBounds_toArray, List.set_cons_zero, List.set_cons_succ, i64_w, i32_w]
      rfl
    refine pure_ (i := 1) (N := some 9) (v := ?_) (a' := ?_) #[true, true, false, false, false, false, false, false, false, false, false, false, false, false, false, false] rfl rfl (any_of HT_.out (by kernel_rfl)) (fun _ _ _ h => h) (Or.inl ⟨by rfl, ?_⟩) ?_ ?_
    rotate_left
    · intro w'
      go_simp
      with_reducible rfl
    rotate_left
    · simp only [Act.put, List.setIfInBounds_toArray, List.set_cons_zero, List.set_cons_succ, i64_w, i32_w]
      rfl
    refine pure_ (i := 2) (N := some 10) (v := ?_) (a' := ?_) #[true, true, true, false, false, false, false, false, false, false, false, false, false, false, false, false] rfl rfl (any_of HT_.out (by kernel_rfl)) (fun _ _ _ h => h) (Or.inl ⟨by rfl, ?_⟩) ?_ ?_
    rotate_left
    · intro w'
      go_simp
      with_reducible rfl
    rotate_left
    · simp only [Act.put, List.setIfInBounds_toArray, List.set_cons_zero, List.set_cons_succ, i64_w, i32_w]
      rfl
    refine take_ (i := 3) (N := some 11) (v := ?_) (a' := ?_) #[true, true, true, true, false, false, false, false, false, false, false, false, false, false, false, false] rfl rfl (take_ofW HT_.out HW_.out (by kernel_rfl)) (fun _ _ _ h => h) (Or.inl ⟨by rfl, ?_⟩) hHeld ?_ ?_
    rotate_left
    · rintro w' ⟨s0, s1, s2, s3⟩
      go_simp
      with_reducible rfl
    rotate_left
    · simp only [Act.put, List.setIfInBounds_toArray, List.set_cons_zero, List.set_cons_succ, i64_w, i32_w]
      rfl
    refine pure_ (i := 4) (N := some 12) (v := ?_) (a' := ?_) #[true, true, true, true, true, false, false, false, false, false, false, false, false, false, false, false] rfl rfl (any_of HT_.out (by kernel_rfl)) (fun _ _ _ h => h) (Or.inl ⟨by rfl, ?_⟩) ?_ ?_
    rotate_left
    · intro w'
      go_simp
      with_reducible rfl
    rotate_left
    · simp only [Act.put, List.setIfInBounds_toArray, List.set_cons_zero, List.set_cons_succ, i64_w, i32_w]
      rfl
    refine pure_ (i := 5) (N := some 13) (v := ?_) (a' := ?_) #[true, true, true, true, true, true, false, false, false, false, false, false, false, false, false, false] rfl rfl (any_of HT_.out (by kernel_rfl)) (fun _ _ _ h => h) (Or.inl ⟨by rfl, ?_⟩) ?_ ?_
    rotate_left
    · intro w'
      go_simp
      with_reducible rfl
    rotate_left
    · simp only [Act.put, List.setIfInBounds_toArray, List.set_cons_zero, List.set_cons_succ, i64_w, i32_w]
      rfl
    refine pure_ (i := 6) (N := some 14) (v := undef) (a' := ?_) #[true, true, true, true, true, true, true, false, false, false, false, false, false, false, false, false] rfl rfl (any_of HT_.out (by kernel_rfl)) (fun _ _ _ h => h) (Or.inr ⟨by rfl, rfl⟩) ?_ ?_
    rotate_left
    · simp only [Act.put, List.setIfInBounds_toArray, List.set_cons_zero, List.set_cons_succ, i64_w, i32_w]
      rfl
    refine pure_ (i := 7) (N := some 15) (v := undef) (a' := ?_) #[true, true, true, true, true, true, true, true, false, false, false, false, false, false, false, false] rfl rfl (any_of HT_.out (by kernel_rfl)) (fun _ _ _ h => h) (Or.inr ⟨by rfl, rfl⟩) ?_ ?_
    rotate_left
    · simp only [Act.put, List.setIfInBounds_toArray, List.set_cons_zero, List.set_cons_succ, i64_w, i32_w]
      rfl
    refine pure_ (i := 8) (N := some 16) (v := undef) (a' := ?_) #[true, true, true, true, true, true, true, true, true, false, false, false, false, false, false, false] rfl rfl (any_of HT_.out (by kernel_rfl)) (fun _ _ _ h => h) (Or.inr ⟨by rfl, rfl⟩) ?_ ?_
    rotate_left
    · simp only [Act.put, List.setIfInBounds_toArray, List.set_cons_zero, List.set_cons_succ, i64_w, i32_w]
      rfl
    refine pure_ (i := 9) (N := some 17) (v := undef) (a' := ?_) #[true, true, true, true, true, true, true, true, true, true, false, false, false, false, false, false] rfl rfl (any_of HT_.out (by kernel_rfl)) (fun _ _ _ h => h) (Or.inr ⟨by rfl, rfl⟩) ?_ ?_
    rotate_left
    · simp only [Act.put, List.setIfInBounds_toArray, List.set_cons_zero, List.set_cons_succ, i64_w, i32_w]
      rfl
    refine pure_ (i := 10) (N := some 18) (v := undef) (a' := ?_) #[true, true, true, true, true, true, true, true, true, true, true, false, false, false, false, false] rfl rfl (any_of HT_.out (by kernel_rfl)) (fun _ _ _ h => h) (Or.inr ⟨by rfl, rfl⟩) ?_ ?_
    rotate_left
    · simp only [Act.put, List.setIfInBounds_toArray, List.set_cons_zero, List.set_cons_succ, i64_w, i32_w]
      rfl
    refine pure_ (i := 11) (N := some 19) (v := undef) (a' := ?_) #[true, true, true, true, true, true, true, true, true, true, true, true, false, false, false, false] rfl rfl (any_of HT_.out (by kernel_rfl)) (fun _ _ _ h => h) (Or.inr ⟨by rfl, rfl⟩) ?_ ?_
    rotate_left
    · simp only [Act.put, List.setIfInBounds_toArray, List.set_cons_zero, List.set_cons_succ, i64_w, i32_w]
      rfl
    refine pure_ (i := 12) (N := some 20) (v := undef) (a' := ?_) #[true, true, true, true, true, true, true, true, true, true, true, true, true, false, false, false] rfl rfl (any_of HT_.out (by kernel_rfl)) (fun _ _ _ h => h) (Or.inr ⟨by rfl, rfl⟩) ?_ ?_
    rotate_left
    · simp only [Act.put, List.setIfInBounds_toArray, List.set_cons_zero, List.set_cons_succ, i64_w, i32_w]
      rfl
    refine pure_ (i := 13) (N := some 21) (v := undef) (a' := ?_) #[true, true, true, true, true, true, true, true, true, true, true, true, true, true, false, false] rfl rfl (any_of HT_.out (by kernel_rfl)) (fun _ _ _ h => h) (Or.inr ⟨by rfl, rfl⟩) ?_ ?_
    rotate_left
    · simp only [Act.put, List.setIfInBounds_toArray, List.set_cons_zero, List.set_cons_succ, i64_w, i32_w]
      rfl
    refine pure_ (i := 14) (N := some 22) (v := ?_) (a' := ?_) #[true, true, true, true, true, true, true, true, true, true, true, true, true, true, true, false] rfl rfl (any_of HT_.out (by kernel_rfl)) (fun _ _ _ h => h) (Or.inl ⟨by rfl, ?_⟩) ?_ ?_
    rotate_left
    · intro w'
      go_simp
      with_reducible rfl
    rotate_left
    · simp only [Act.put, List.setIfInBounds_toArray, List.set_cons_zero, List.set_cons_succ, i64_w, i32_w]
      rfl
    refine pure_ (i := 15) (N := some 4) (v := ?_) (a' := ?_) #[true, true, true, true, true, true, true, true, true, true, true, true, true, true, true, true] rfl rfl (any_of HT_.out (by kernel_rfl)) (fun _ _ _ h => h) (Or.inl ⟨by rfl, ?_⟩) ?_ ?_
    rotate_left
    · intro w'
      go_simp
      with_reducible rfl
    rotate_left
    · simp only [Act.put, List.setIfInBounds_toArray, List.set_cons_zero, List.set_cons_succ, i64_w, i32_w]
      rfl
    refine done_ (done_of HT_.out (by kernel_rfl)) ?_
    try go_wp2
    go_ret
    exact ⟨by first | rfl | (simp [errW_none, errW_some] <;> rfl) | (simp [*, errW_none, errW_some] <;> rfl), by repeat (first | (with_reducible first | exact HB.out | apply below_alloc | apply pw_below_drewN | apply below_drew1 | refine below_set ?_ GE144.out) | exact HB.out)⟩
end Go.Proofs.YtggpejjfgphihaaDoor.D
end

section
namespace Go.Proofs.YtggpejjfgphihaaDoor.D
open Go.Proofs.YtggpejjfgphihaaDoor.Given Go.RowKit Go.Proofs.YtggpejjfgphihaaDoorW.PrintWords Go.Proofs.YtggpejjfgphihaaDoorW.PrintLast Go.Proofs.YtggpejjfgphihaaDoorW.PrintMore
attribute [local go_sem] max2_int min2_int max_two min_two max_three min_three max_four min_four
set_option linter.unusedVariables false
set_option linter.unusedSimpArgs false
def marlineref02_Good.l0 : Nat → List Int → Int → List Int → Int → Option (Bool)
  | 0, _, _, _, _ => none
  | k + 1, x1, x5, x6, x7 => if x7 < (x6.length : Int) then (if 0 ≤ (wrap64 (x5 + x7)) then (if (wrap64 (x5 + x7)) < (x1.length : Int) then (if 0 ≤ x7 then (if (rd x1 (wrap64 (x5 + x7))) = (rd x6 x7) then (marlineref02_Good.l0 k x1 x5 x6 (wrap64 (x7 + 1))) else (some false)) else (none)) else (none)) else (none)) else (some true)
def marlineref02_Good.f (k : Nat) (a0 : Bool) (l1 : List Int) : Option (Bool) := (marlineref02_Size.f a0).bind fun t181 => (if (wrap64 ((l1.length : Int) - t181)) < 0 then (some false) else (if 0 ≤ (wrap64 ((l1.length : Int) - t181)) then (if (wrap64 ((l1.length : Int) - t181)) ≤ (l1.length : Int) then ((marlineref02_Trailer.f k a0 (l1.take ((wrap64 ((l1.length : Int) - t181)) : Int).toNat)).bind fun t183 => (marlineref02_Good.l0 k l1 (wrap64 ((l1.length : Int) - t181)) t183 0)) else (none)) else (none)))
set_option maxHeartbeats 8000000 in
set_option maxRecDepth 100000 in
theorem marlineref02_Good.calls (k : Nat) (a0 : Bool) (A1 : Option Addr) (c1 : Nat) (l1 : List Int) (r : Bool) (w : World) (hr1 : Kd.C (Kd.int .u8) w A1 l1.length l1) (hc1 : l1.length ≤ c1) (h : marlineref02_Good.f k a0 l1 = some r) :
    Calls Tryd.prog 45 #[.bool a0, .slice A1 l1.length c1] w fun e w' => e = .returned (.bool r) ∧ Below w.heap.size w w' := by
  have HR1 := Aside0.mk hr1
  have HC1 := Aside0.mk hc1
  clear hr1 hc1
  have HB := Aside0.mk (Below.refl w.heap.size w)
  have H : ((marlineref02_Size.f a0).bind fun t181 => (if (wrap64 ((l1.length : Int) - t181)) < 0 then (some false) else (if 0 ≤ (wrap64 ((l1.length : Int) - t181)) then (if (wrap64 ((l1.length : Int) - t181)) ≤ (l1.length : Int) then ((marlineref02_Trailer.f k a0 (l1.take ((wrap64 ((l1.length : Int) - t181)) : Int).toNat)).bind fun t183 => (marlineref02_Good.l0 k l1 (wrap64 ((l1.length : Int) - t181)) t183 0)) else (none)) else (none)))) = some r := h
  clear h
  replace H := Option.bind_eq_some_iff.mp H
  obtain ⟨t181, A30, H⟩ := H
  replace H : (if (wrap64 ((l1.length : Int) - t181)) < 0 then (some false) else (if 0 ≤ (wrap64 ((l1.length : Int) - t181)) then (if (wrap64 ((l1.length : Int) - t181)) ≤ (l1.length : Int) then ((marlineref02_Trailer.f k a0 (l1.take ((wrap64 ((l1.length : Int) - t181)) : Int).toNat)).bind fun t183 => (marlineref02_Good.l0 k l1 (wrap64 ((l1.length : Int) - t181)) t183 0)) else (none)) else (none))) = some r := H
  have A3 := Aside0.mk A30
  clear A30
  by_cases c4 : (wrap64 ((l1.length : Int) - t181)) < 0
  · rw [if_pos c4] at H
    have c4b0 : decide ((wrap64 ((l1.length : Int) - t181)) < 0) = true := decide_eq_true c4
    clear c4
    obtain rfl := Option.some.inj H
    go_enter Tryd.func45, Tryd.ntmps45
    go_wp2_with (first | (go_at_call 46; (with_reducible refine (marlineref02_Size.calls a0 t181 _ A3.out).mono ?_); rintro e w' ⟨rfl, ⟨nd, rfl⟩⟩; (try first | exact ⟨rfl, _, World.drewN_drewN _ _ _⟩ | exact ⟨rfl, _, Eq.trans (World.drewN_drewN _ _ _) (congrArg (World.drewN _) (Nat.add_assoc _ _ _))⟩)))
    repeat (go_quiet (first | (go_at_call 46; (with_reducible refine (marlineref02_Size.calls a0 t181 _ A3.out).mono ?_); rintro e w' ⟨rfl, ⟨nd, rfl⟩⟩; (try first | exact ⟨rfl, _, World.drewN_drewN _ _ _⟩ | exact ⟨rfl, _, Eq.trans (World.drewN_drewN _ _ _) (congrArg (World.drewN _) (Nat.add_assoc _ _ _))⟩))); try go_wp2_with (first | (go_at_call 46; (with_reducible refine (marlineref02_Size.calls a0 t181 _ A3.out).mono ?_); rintro e w' ⟨rfl, ⟨nd, rfl⟩⟩; (try first | exact ⟨rfl, _, World.drewN_drewN _ _ _⟩ | exact ⟨rfl, _, Eq.trans (World.drewN_drewN _ _ _) (congrArg (World.drewN _) (Nat.add_assoc _ _ _))⟩))))
    go_ret
    exact ⟨by first | rfl | (simp [errW_none, errW_some] <;> rfl) | (simp [*, errW_none, errW_some] <;> rfl), by repeat (first | (with_reducible first | exact HB.out | apply below_alloc | apply pw_below_drewN | apply below_drew1) | exact HB.out)⟩
  · rw [if_neg c4] at H
    have c4b0 : decide ((wrap64 ((l1.length : Int) - t181)) < 0) = false := decide_eq_false c4
    clear c4
    obtain ⟨ji5, hji5⟩ : ∃ j_ : Int, (wrap64 ((l1.length : Int) - t181)) = j_ := ⟨_, rfl⟩
    replace H : (if 0 ≤ (ji5) then (if (ji5) ≤ (l1.length : Int) then ((marlineref02_Trailer.f k a0 (l1.take ((ji5) : Int).toNat)).bind fun t183 => (marlineref02_Good.l0 k l1 ji5 t183 0)) else (none)) else (none)) = some r := by first | (rw [hji5] at H; exact H) | (simp only [hji5] at H ⊢; exact H)
    (try rw [hji5] at c4b0)
    (try rw [hji5] at A3)
    have hji5w : (IntKind.i64.wrap ((l1.length : Int) - t181)) = ji5 := (i64_w _).trans hji5
    by_cases c6 : 0 ≤ (ji5)
    · rw [if_pos c6] at H
      have c6b0 := eq_true c6
      have c6b1 : decide (0 ≤ (ji5)) = true := decide_eq_true c6
      clear c6
      by_cases c7 : (ji5) ≤ (l1.length : Int)
      · rw [if_pos c7] at H
        have c7b0 := eq_true c7
        have c7b1 : decide ((ji5) ≤ (l1.length : Int)) = true := decide_eq_true c7
        clear c7
        replace H := Option.bind_eq_some_iff.mp H
        obtain ⟨t183, A80, H⟩ := H
        replace H : (marlineref02_Good.l0 k l1 ji5 t183 0) = some r := H
        have A8 := Aside0.mk A80
        clear A80
        have H' := Aside0.mk H
        clear H
        go_enter Tryd.func45, Tryd.ntmps45
        go_wp2_with (first | (go_at_call 46; (with_reducible refine (marlineref02_Size.calls a0 t181 _ A3.out).mono ?_); rintro e w' ⟨rfl, ⟨nd, rfl⟩⟩; (try first | exact ⟨rfl, _, World.drewN_drewN _ _ _⟩ | exact ⟨rfl, _, Eq.trans (World.drewN_drewN _ _ _) (congrArg (World.drewN _) (Nat.add_assoc _ _ _))⟩); obtain ⟨i09, hi09, _, hsz9, _⟩ := info_parts info5; obtain ⟨hcut9, hA9, hC9⟩ := print_take_of (P := Tryd.prog) (Value.int .u8) 0 35 5 .i64 Tryd.underlying35 hi09 hsz9 A1 c1 l1 (ji5) (of_decide_eq_true (by first | (with_reducible assumption) | assumption)) (of_decide_eq_true (by first | (with_reducible assumption) | assumption)) HC1.out; have HR182 := Aside0.mk (Kd.C_of_reads (h1 := fun _ => rfl) (hA9 _ (Kd.reads_of_C HR1.out))); have HC182 := Aside0.mk hC9; clear hA9 hC9 hi09 hsz9) | (go_at_call 44; refine calls_of_args (args' := #[.bool a0, .slice A1 (l1.take ((ji5) : Int).toNat).length c1]) (by first | (rw [show (l1.take ((ji5) : Int).toNat).length = (ji5).toNat from (by rw [List.length_take]; have h_ : ((ji5) : Int) ≤ (l1.length : Int) := of_decide_eq_true (by first | (with_reducible assumption) | assumption); omega)] <;> rfl) |  rfl) ?_; (with_reducible refine (marlineref02_Trailer.calls k a0 _ _ (l1.take ((ji5) : Int).toNat) t183 _ ?side1 ?side2 A8.out).mono ?_); (case side1 => repeat (first | exact HR182.out | (with_reducible refine Kd.C_alloc ?_ _) | (with_reducible refine Kd.C_drewN ?_ _) | (with_reducible refine Kd.C_drew ?_))); (case side2 => exact HC182.out); rintro e w10 ⟨v184, rfl, ho0, hb⟩; have n0_ := Aside0.mk (Kd.R_lower ho0 (below_size (by repeat (first | (with_reducible first | exact HB.out | apply below_alloc | apply pw_below_drewN | apply below_drew1) | exact HB.out)))); have n1_ := Aside0.mk (below_step (by repeat (first | (with_reducible first | exact HB.out | apply below_alloc | apply pw_below_drewN | apply below_drew1) | exact HB.out)) hb); clear HB; have HO185 := n0_; have HB := n1_; clear n0_ n1_; (try clear hb); (try clear hb2); (try clear hk); (try clear hi); (try clear ho0)))
        repeat (go_quiet (first | (go_at_call 46; (with_reducible refine (marlineref02_Size.calls a0 t181 _ A3.out).mono ?_); rintro e w' ⟨rfl, ⟨nd, rfl⟩⟩; (try first | exact ⟨rfl, _, World.drewN_drewN _ _ _⟩ | exact ⟨rfl, _, Eq.trans (World.drewN_drewN _ _ _) (congrArg (World.drewN _) (Nat.add_assoc _ _ _))⟩); obtain ⟨i09, hi09, _, hsz9, _⟩ := info_parts info5; obtain ⟨hcut9, hA9, hC9⟩ := print_take_of (P := Tryd.prog) (Value.int .u8) 0 35 5 .i64 Tryd.underlying35 hi09 hsz9 A1 c1 l1 (ji5) (of_decide_eq_true (by first | (with_reducible assumption) | assumption)) (of_decide_eq_true (by first | (with_reducible assumption) | assumption)) HC1.out; have HR182 := Aside0.mk (Kd.C_of_reads (h1 := fun _ => rfl) (hA9 _ (Kd.reads_of_C HR1.out))); have HC182 := Aside0.mk hC9; clear hA9 hC9 hi09 hsz9) | (go_at_call 44; refine calls_of_args (args' := #[.bool a0, .slice A1 (l1.take ((ji5) : Int).toNat).length c1]) (by first | (rw [show (l1.take ((ji5) : Int).toNat).length = (ji5).toNat from (by rw [List.length_take]; have h_ : ((ji5) : Int) ≤ (l1.length : Int) := of_decide_eq_true (by first | (with_reducible assumption) | assumption); omega)] <;> rfl) |  rfl) ?_; (with_reducible refine (marlineref02_Trailer.calls k a0 _ _ (l1.take ((ji5) : Int).toNat) t183 _ ?side1 ?side2 A8.out).mono ?_); (case side1 => repeat (first | exact HR182.out | (with_reducible refine Kd.C_alloc ?_ _) | (with_reducible refine Kd.C_drewN ?_ _) | (with_reducible refine Kd.C_drew ?_))); (case side2 => exact HC182.out); rintro e w10 ⟨v184, rfl, ho0, hb⟩; have n0_ := Aside0.mk (Kd.R_lower ho0 (below_size (by repeat (first | (with_reducible first | exact HB.out | apply below_alloc | apply pw_below_drewN | apply below_drew1) | exact HB.out)))); have n1_ := Aside0.mk (below_step (by repeat (first | (with_reducible first | exact HB.out | apply below_alloc | apply pw_below_drewN | apply below_drew1) | exact HB.out)) hb); clear HB; have HO185 := n0_; have HB := n1_; clear n0_ n1_; (try clear hb); (try clear hb2); (try clear hk); (try clear hi); (try clear ho0))); try go_wp2_with (first | (go_at_call 46; (with_reducible refine (marlineref02_Size.calls a0 t181 _ A3.out).mono ?_); rintro e w' ⟨rfl, ⟨nd, rfl⟩⟩; (try first | exact ⟨rfl, _, World.drewN_drewN _ _ _⟩ | exact ⟨rfl, _, Eq.trans (World.drewN_drewN _ _ _) (congrArg (World.drewN _) (Nat.add_assoc _ _ _))⟩); obtain ⟨i09, hi09, _, hsz9, _⟩ := info_parts info5; obtain ⟨hcut9, hA9, hC9⟩ := print_take_of (P := Tryd.prog) (Value.int .u8) 0 35 5 .i64 Tryd.underlying35 hi09 hsz9 A1 c1 l1 (ji5) (of_decide_eq_true (by first | (with_reducible assumption) | assumption)) (of_decide_eq_true (by first | (with_reducible assumption) | assumption)) HC1.out; have HR182 := Aside0.mk (Kd.C_of_reads (h1 := fun _ => rfl) (hA9 _ (Kd.reads_of_C HR1.out))); have HC182 := Aside0.mk hC9; clear hA9 hC9 hi09 hsz9) | (go_at_call 44; refine calls_of_args (args' := #[.bool a0, .slice A1 (l1.take ((ji5) : Int).toNat).length c1]) (by first | (rw [show (l1.take ((ji5) : Int).toNat).length = (ji5).toNat from (by rw [List.length_take]; have h_ : ((ji5) : Int) ≤ (l1.length : Int) := of_decide_eq_true (by first | (with_reducible assumption) | assumption); omega)] <;> rfl) |  rfl) ?_; (with_reducible refine (marlineref02_Trailer.calls k a0 _ _ (l1.take ((ji5) : Int).toNat) t183 _ ?side1 ?side2 A8.out).mono ?_); (case side1 => repeat (first | exact HR182.out | (with_reducible refine Kd.C_alloc ?_ _) | (with_reducible refine Kd.C_drewN ?_ _) | (with_reducible refine Kd.C_drew ?_))); (case side2 => exact HC182.out); rintro e w10 ⟨v184, rfl, ho0, hb⟩; have n0_ := Aside0.mk (Kd.R_lower ho0 (below_size (by repeat (first | (with_reducible first | exact HB.out | apply below_alloc | apply pw_below_drewN | apply below_drew1) | exact HB.out)))); have n1_ := Aside0.mk (below_step (by repeat (first | (with_reducible first | exact HB.out | apply below_alloc | apply pw_below_drewN | apply below_drew1) | exact HB.out)) hb); clear HB; have HO185 := n0_; have HB := n1_; clear n0_ n1_; (try clear hb); (try clear hb2); (try clear hk); (try clear hi); (try clear ho0))))
        go_loopg [7] k (fun kq v7 w' => ∃ (x7_1 : Int), v7 = .int .i64 x7_1 ∧ Aside0 (marlineref02_Good.l0 kq l1 ji5 t183 x7_1 = some r) ∧ Aside0 (kq ≤ k) ∧ Aside0 (Kd.R (Kd.int .u8) 5 w' w.heap.size (fun _ => True) v184 t183) ∧ Aside0 (Below w.heap.size w w'))
        case atStart => exact ⟨(0), (by first | rfl | (simp; done) | (simp [*]; done)), H', ⟨Nat.le_refl _⟩, ⟨by (with_reducible repeat (first | apply Kd.R_alloc | apply Kd.R_drewN | apply Kd.R_drew)); exact HO185.out⟩, ⟨by repeat (first | (with_reducible first | exact HB.out | apply below_alloc | apply pw_below_drewN | apply below_drew1) | exact HB.out)⟩⟩
        case round =>
          clear H'
          try clear c1
          try clear p2
          try clear c4
          try clear c4b0
          try clear c6
          try clear c6b0
          try clear c6b1
          try clear p6
          try clear c7
          try clear c7b0
          try clear c7b1
          obtain ⟨x7_1, rfl, HA, HK1, HO_6, HB⟩ := hrel
          cases gk with
          | zero => exact absurd HA.out (by simp [marlineref02_Good.l0])
          | succ k1 =>
            have H := HA.out
            clear HA
            simp only [marlineref02_Good.l0] at H
            by_cases c11 : x7_1 < (t183.length : Int)
            · rw [if_pos c11] at H
              have c11b0 : decide (x7_1 < (t183.length : Int)) = true := decide_eq_true c11
              clear c11
              obtain ⟨ji12, hji12⟩ : ∃ j_ : Int, (wrap64 (ji5 + x7_1)) = j_ := ⟨_, rfl⟩
              replace H : (if 0 ≤ (ji12) then (if (ji12) < (l1.length : Int) then (if 0 ≤ x7_1 then (if (rd l1 (ji12)) = (rd t183 x7_1) then (marlineref02_Good.l0 k1 l1 ji5 t183 (wrap64 (x7_1 + 1))) else (some false)) else (none)) else (none)) else (none)) = some r := by first | (rw [hji12] at H; exact H) | (simp only [hji12] at H ⊢; exact H)
              have hji12w : (IntKind.i64.wrap (ji5 + x7_1)) = ji12 := (i64_w _).trans hji12
              by_cases c13 : 0 ≤ (ji12)
              · rw [if_pos c13] at H
                have c13b0 : decide (0 ≤ (ji12)) = true := decide_eq_true c13
                clear c13
                by_cases c14 : (ji12) < (l1.length : Int)
                · rw [if_pos c14] at H
                  have c14b0 : decide ((ji12) < (l1.length : Int)) = true := decide_eq_true c14
                  clear c14
                  by_cases c15 : 0 ≤ x7_1
                  · rw [if_pos c15] at H
                    have c15b0 : decide (0 ≤ x7_1) = true := decide_eq_true c15
                    clear c15
                    by_cases c16 : (rd l1 (ji12)) = (rd t183 x7_1)
                    · rw [if_pos c16] at H
                      have c16b0 : ((rd l1 (ji12)) == (rd t183 x7_1)) = true := beq_iff_eq.mpr c16
                      have c16b1 : ((rd l1 (ji12)) != (rd t183 x7_1)) = false := bne_eq_false_iff_eq.mpr c16
                      clear c16
                      have H' := Aside0.mk H
                      clear H
                      obtain ⟨Ao17, co17, eo17⟩ := Kd.R_slice HO_6.out
                      subst eo17
                      have p186 : 0 ≤ ((ji12) : Int) := of_decide_eq_true (by first | (with_reducible assumption) | assumption)
                      have q186 : (ji12) < (l1.length : Int) := of_decide_eq_true (by first | (with_reducible assumption) | assumption)
                      obtain ⟨ad186, e186, hx186_0⟩ := Kd.at_int HR1.out (ji12) p186 q186
                      cases e186
                      replace hx186_0 := (HB.out.cell (World.block_lt_of_cell? w _ hx186_0)).trans hx186_0
                      replace p186 := eq_true p186
                      replace q186 := eq_true q186
                      have p187 : 0 ≤ (x7_1 : Int) := of_decide_eq_true (by first | (with_reducible assumption) | assumption)
                      have q187 : x7_1 < (t183.length : Int) := of_decide_eq_true (by first | (with_reducible assumption) | assumption)
                      obtain ⟨ad187, e187, hx187_0⟩ := Kd.at_int (Kd.R_reads' HO_6.out).2.2 x7_1 p187 q187
                      cases e187
                      replace p187 := eq_true p187
                      replace q187 := eq_true q187
                      go_wp2
                      repeat (go_quiet (fail); try go_wp2)
                      go_roundg k1
                      case measure => have := HK1.out; omega
                      case rel => exact ⟨(wrap64 (x7_1 + 1)), (by first | rfl | (simp; done) | (simp [*]; done)), H', ⟨by have := HK1.out; omega⟩, ⟨by (with_reducible repeat (first | apply Kd.R_alloc | apply Kd.R_drewN | apply Kd.R_drew)); exact HO_6.out⟩, ⟨by repeat (first | (with_reducible first | exact HB.out | apply below_alloc | apply pw_below_drewN | apply below_drew1) | exact HB.out)⟩⟩
                    · rw [if_neg c16] at H
                      have c16b0 : ((rd l1 (ji12)) == (rd t183 x7_1)) = false := beq_eq_false_iff_ne.mpr c16
                      have c16b1 : ((rd l1 (ji12)) != (rd t183 x7_1)) = true := bne_iff_ne.mpr c16
                      obtain rfl := Option.some.inj H
                      obtain ⟨Ao18, co18, eo18⟩ := Kd.R_slice HO_6.out
                      subst eo18
                      have p186 : 0 ≤ ((ji12) : Int) := of_decide_eq_true (by first | (with_reducible assumption) | assumption)
                      have q186 : (ji12) < (l1.length : Int) := of_decide_eq_true (by first | (with_reducible assumption) | assumption)
                      obtain ⟨ad186, e186, hx186_0⟩ := Kd.at_int HR1.out (ji12) p186 q186
                      cases e186
                      replace hx186_0 := (HB.out.cell (World.block_lt_of_cell? w _ hx186_0)).trans hx186_0
                      replace p186 := eq_true p186
                      replace q186 := eq_true q186
                      have p187 : 0 ≤ (x7_1 : Int) := of_decide_eq_true (by first | (with_reducible assumption) | assumption)
                      have q187 : x7_1 < (t183.length : Int) := of_decide_eq_true (by first | (with_reducible assumption) | assumption)
                      obtain ⟨ad187, e187, hx187_0⟩ := Kd.at_int (Kd.R_reads' HO_6.out).2.2 x7_1 p187 q187
                      cases e187
                      replace p187 := eq_true p187
                      replace q187 := eq_true q187
                      go_wp2
                      repeat (go_quiet (fail); try go_wp2)
                      go_ret
                      exact ⟨by first | rfl | (simp [errW_none, errW_some] <;> rfl) | (simp only [← hji5, ← hji12]; first | rfl | (simp [errW_none, errW_some] <;> rfl)) | (simp [*, errW_none, errW_some] <;> rfl), by repeat (first | (with_reducible first | exact HB.out | apply below_alloc | apply pw_below_drewN | apply below_drew1) | exact HB.out)⟩
                  · rw [if_neg c15] at H
                    exact absurd H (by simp)
                · rw [if_neg c14] at H
                  exact absurd H (by simp)
              · rw [if_neg c13] at H
                exact absurd H (by simp)
            · rw [if_neg c11] at H
              have c11b0 : decide (x7_1 < (t183.length : Int)) = false := decide_eq_false c11
              clear c11
              obtain rfl := Option.some.inj H
              obtain ⟨Ao19, co19, eo19⟩ := Kd.R_slice HO_6.out
              subst eo19
              go_wp2
              repeat (go_quiet (fail); try go_wp2)
              go_ret
              exact ⟨by first | rfl | (simp [errW_none, errW_some] <;> rfl) | (simp only [← hji5]; first | rfl | (simp [errW_none, errW_some] <;> rfl)) | (simp [*, errW_none, errW_some] <;> rfl), by repeat (first | (with_reducible first | exact HB.out | apply below_alloc | apply pw_below_drewN | apply below_drew1) | exact HB.out)⟩
      · rw [if_neg c7] at H
        exact absurd H (by simp)
    · rw [if_neg c6] at H
      exact absurd H (by simp)
end Go.Proofs.YtggpejjfgphihaaDoor.D
end

section
namespace Go.Proofs.YtggpejjfgphihaaDoor.Pu
open Go.RowKit Go.Proofs.YtggpejjfgphihaaDoorW.PrintWords
open Go.Proofs.YtggpejjfgphihaaDoor.Given Go.Proofs.YtggpejjfgphihaaDoor.Crc Go.Proofs.YtggpejjfgphihaaDoor.D
set_option linter.unusedVariables false
theorem f_Sum (a0 : Bool) (B : List Nat) (hB : ∀ x ∈ B, x < 256) : fcs_Sum.f a0 (ofN B) = some ((sumN a0 B : Nat) : Int) := by
  unfold fcs_Sum.f; rw [if_pos (ofN_ok B hB), ofN_toNat]
theorem f_More (a0 : Bool) (r : Nat) (hr : r < 4294967296) (B : List Nat) (hB : ∀ x ∈ B, x < 256) : fcs_More.f a0 (r : Int) (ofN B) = some ((more (polyOf a0) (r % widthOf a0) B : Nat) : Int) := by
  unfold fcs_More.f
  rw [if_pos ⟨ofN_ok B hB, by omega, by omega⟩, ofN_toNat]; rfl
theorem sumN_lt32 (a0 : Bool) (B : List Nat) (hB : ∀ x ∈ B, x < 256) : sumN a0 B < 4294967296 := Nat.lt_of_lt_of_le (sum_lt a0 B hB) (width_le a0).2
theorem trailer_go (n : Nat) : ∀ (k i : Nat) (s : Nat) (acc : List Int), acc.length + n < 1000 → n < 100 → i + n ≤ 4 → s < 4294967296 →
    fcs_Trailer.l0 (k + n + 1) (s : Int) acc ((i + n : Nat) : Int) (i : Int) = some (acc ++ ofN (bytesLE (s / 256 ^ i) n)) := by
  induction n with
  | zero =>
    intro k i s acc h1 h2 h3 h4
    rw [fcs_Trailer.l0, if_neg (by omega)]
    simp [bytesLE, ofN]
  | succ n ih =>
    intro k i s acc h1 h2 h3 h4
    rw [show k + (n + 1) + 1 = (k + n + 1) + 1 by omega, fcs_Trailer.l0, if_pos (by omega)]
    have e8 : wrap64 (8 * (i : Int)) = ((8 * i : Nat) : Int) := by unfold wrap64; omega
    rw [e8, if_pos (by omega), if_pos (by omega)]
    have e1 : wrap64 ((i : Int) + 1) = ((i + 1 : Nat) : Int) := by unfold wrap64; omega
    have e2 : shr .u32 (s : Int) ((8 * i : Nat) : Int) % 256 = ((s / 256 ^ i % 256 : Nat) : Int) := by
      unfold shr
      have : min ((8 * i : Nat) : Int).toNat IntKind.u32.bits = 8 * i := by simp only [Int.toNat_natCast, IntKind.bits]; omega
      rw [this, show ((2 : Int) ^ (8 * i)) = ((256 ^ i : Nat) : Int) by rw [show (256 : Nat) = 2 ^ 8 by decide, ← Nat.pow_mul]; simp]
      exact rfl
    rw [e1, e2, show ((i + (n + 1) : Nat) : Int) = ((i + 1 + n : Nat) : Int) from congrArg _ (by omega), ih k (i + 1) s (acc ++ [((s / 256 ^ i % 256 : Nat) : Int)]) (by simp; omega) (by omega) (by omega) h4]
    simp [bytesLE, ofN, Nat.pow_succ, Nat.div_div_eq_div_mul]
theorem f_Trailer (k : Nat) (a0 : Bool) (B : List Nat) (hB : ∀ x ∈ B, x < 256) : fcs_Trailer.f (k + 5) a0 (ofN B) = some (ofN (trailerN a0 B)) := by
  have hs := sumN_lt32 a0 B hB
  unfold fcs_Trailer.f
  rw [f_Sum a0 B hB, Option.bind_some]
  cases a0
  · have := trailer_go 2 (k + 2) 0 (sumN false B) [] (by decide) (by decide) (by decide) hs
    simpa [fcs_of.f, trailerN, sizeN] using this
  · have := trailer_go 4 k 0 (sumN true B) [] (by decide) (by decide) (by decide) hs
    simpa [fcs_of.f, trailerN, sizeN] using this
theorem f_Good (a0 : Bool) (B : List Nat) (hB : ∀ x ∈ B, x < 256) : fcs_Good.f a0 (ofN B) = some (goodB a0 B) := by
  have hm := f_More a0 (widthOf a0 - 1) (by cases a0 <;> decide) B hB
  rw [show (widthOf a0 - 1) % widthOf a0 = widthOf a0 - 1 by cases a0 <;> decide] at hm
  unfold fcs_Good.f goodB
  cases a0
  · simp only [fcs_of.f, Option.bind_some, ofN_length, sizeN, Bool.false_eq_true, if_false, widthOf, goodN, ge_iff_le] at hm ⊢
    have hm' : fcs_More.f false 65535 (ofN B) = some ((more (polyOf false) (65536 - 1) B : Nat) : Int) := hm
    by_cases h : 2 ≤ B.length
    · rw [if_pos (by omega), hm', Option.bind_some]
      simp only [h, decide_true, Bool.true_and]
      congr 1
      rw [Bool.eq_iff_iff]; simp; omega
    · rw [if_neg (by omega)]; simp [h]
  · simp only [fcs_of.f, Option.bind_some, ofN_length, sizeN, if_true, widthOf, goodN, ge_iff_le] at hm ⊢
    have hm' : fcs_More.f true 4294967295 (ofN B) = some ((more (polyOf true) (4294967296 - 1) B : Nat) : Int) := hm
    by_cases h : 4 ≤ B.length
    · rw [if_pos (by omega), hm', Option.bind_some]
      simp only [h, decide_true, Bool.true_and]
      congr 1
      rw [Bool.eq_iff_iff]; simp; omega
    · rw [if_neg (by omega)]; simp [h]
theorem f_Size (a0 : Bool) : fcs_Size.f a0 = some ((sizeN a0 : Nat) : Int) := by cases a0 <;> rfl
theorem r_Size (a0 : Bool) : marlineref02_Size.f a0 = some ((sizeN a0 : Nat) : Int) := by cases a0 <;> rfl
theorem st_step (p x : Nat) (hp : p < 4294967296) (hx : x < 4294967296) : (if x % 2 = 1 then ((x / 2) ^^^ p) else x / 2) = st p x := by
  unfold st
  rcases Nat.mod_two_eq_zero_or_one x with h | h <;> rw [h] <;> simp
theorem more_bit (k : Nat) (x : Nat) (l : List Int) (p : Nat) (i : Int) (j : Nat) (hp : p < 4294967296) (hx : x < 4294967296) (hj : j < 8) :
    marlineref02_More.l1 (k + 1) (x : Int) l (p : Int) i (j : Int) = marlineref02_More.l1 k ((st p x : Nat) : Int) l (p : Int) i ((j + 1 : Nat) : Int) := by
  rw [marlineref02_More.l1, if_pos (by omega), tmod2]
  have e1 : wrap64 ((j : Int) + 1) = ((j + 1 : Nat) : Int) := by unfold wrap64; omega
  have e2 : Int.tdiv (x : Int) 2 % 4294967296 = ((x / 2 : Nat) : Int) := by
    have := tdivN x 2
    have h2 : ((2 : Nat) : Int) = 2 := rfl
    rw [h2] at this
    rw [this]; omega
  rw [e1, e2, ← st_step p x hp hx]
  by_cases h : x % 2 = 1
  · rw [if_pos (by omega), if_pos h, xor_u32 _ _ (by omega) (by omega)]
  · rw [if_neg (by omega), if_neg h]
theorem st_lt32 (p x : Nat) (hp : p < 4294967296) (hx : x < 4294967296) : st p x < 4294967296 := st_lt (w := 32) hp hx
theorem more_octet (k : Nat) (x : Nat) (l : List Int) (p : Nat) (i : Int) (hp : p < 4294967296) (hx : x < 4294967296) :
    marlineref02_More.l1 (k + 9) (x : Int) l (p : Int) i 0 = marlineref02_More.l0 k ((it p 8 x : Nat) : Int) l (p : Int) (wrap64 (i + 1)) := by
  have h0 := hx
  have h1 := st_lt32 p _ hp h0
  have h2 := st_lt32 p _ hp h1
  have h3 := st_lt32 p _ hp h2
  have h4 := st_lt32 p _ hp h3
  have h5 := st_lt32 p _ hp h4
  have h6 := st_lt32 p _ hp h5
  have h7 := st_lt32 p _ hp h6
  have e0 := more_bit (k + 8) x l p i 0 hp h0 (by decide)
  rw [show ((0 : Nat) : Int) = 0 from rfl] at e0
  rw [e0, more_bit (k + 7) _ l p i 1 hp h1 (by decide), more_bit (k + 6) _ l p i 2 hp h2 (by decide), more_bit (k + 5) _ l p i 3 hp h3 (by decide),
    more_bit (k + 4) _ l p i 4 hp h4 (by decide), more_bit (k + 3) _ l p i 5 hp h5 (by decide), more_bit (k + 2) _ l p i 6 hp h6 (by decide), more_bit (k + 1) _ l p i 7 hp h7 (by decide)]
  rw [marlineref02_More.l1, if_neg (by decide)]
  rfl
theorem more_all (p : Nat) (hp : p < 4294967296) (B : List Nat) (hB : ∀ x ∈ B, x < 256) (hl : B.length < 4611686018427387904) : ∀ (n i k x : Nat), B.length = i + n → x < 4294967296 →
    marlineref02_More.l0 (k + 10 * n + 1) (x : Int) (ofN B) (p : Int) (i : Int) = some ((more p x (B.drop i) : Nat) : Int) := by
  intro n
  induction n with
  | zero =>
    intro i k x he hx
    rw [marlineref02_More.l0, if_neg (by rw [ofN_length]; omega), List.drop_eq_nil_of_le (by omega)]; rfl
  | succ n ih =>
    intro i k x he hx
    have hi : i < B.length := by omega
    have hc := hB B[i] (List.getElem_mem hi)
    have hx1 : x ^^^ B[i] < 4294967296 := Nat.xor_lt_two_pow (n := 32) hx (by omega)
    rw [show k + 10 * (n + 1) + 1 = ((k + 10 * n + 1) + 9) + 1 by omega, marlineref02_More.l0, if_pos (by rw [ofN_length]; omega), if_pos (by omega), ofN_rd B i hi]
    rw [show ((B[i] : Nat) : Int) % 4294967296 = ((B[i] : Nat) : Int) by omega, xor_u32 _ _ (by omega) (by omega), more_octet _ _ _ _ _ hp hx1]
    rw [show wrap64 ((i : Int) + 1) = ((i + 1 : Nat) : Int) by unfold wrap64; omega, ih (i + 1) k _ (by omega) (it_lt (w := 32) 8 hp hx1)]
    rw [List.drop_eq_getElem_cons hi, more]
theorem r_More (k : Nat) (a0 : Bool) (r : Nat) (hr : r < 4294967296) (B : List Nat) (hB : ∀ x ∈ B, x < 256) (hl : B.length < 4611686018427387904) (hk : 10 * B.length + 2 ≤ k) :
    marlineref02_More.f k a0 (r : Int) (ofN B) = some ((more (polyOf a0) (r % widthOf a0) B : Nat) : Int) := by
  obtain ⟨m, rfl⟩ : ∃ m, k = (m + 10 * B.length + 1) + 1 := ⟨k - (10 * B.length + 2), by omega⟩
  unfold marlineref02_More.f
  cases a0
  · have h1 : Int.tmod (r : Int) 65536 = ((r % 65536 : Nat) : Int) := tmodN r 65536
    rw [if_neg (by decide), h1, marlineref02_More.j0]
    exact more_all 33800 (by decide) B hB hl B.length 0 m (r % 65536) (by omega) (by omega)
  · rw [if_pos rfl, marlineref02_More.j0]
    have : r % widthOf true = r := Nat.mod_eq_of_lt hr
    rw [this]
    exact more_all 3988292384 (by decide) B hB hl B.length 0 m r (by omega) hr
theorem sub_xor (w m : Nat) (h : m < 2 ^ w) : 2 ^ w - 1 - m = m ^^^ (2 ^ w - 1) := by
  apply Nat.eq_of_testBit_eq
  intro i
  rw [Nat.sub_sub, Nat.add_comm 1 m, Nat.testBit_two_pow_sub_succ h, Nat.testBit_xor, Nat.testBit_two_pow_sub_one]
  by_cases hi : i < w
  · simp [hi]
  · simp [hi]
    rw [Nat.testBit_lt_two_pow (Nat.lt_of_lt_of_le h (Nat.pow_le_pow_right (by decide) (by omega)))]
theorem r_Sum (k : Nat) (a0 : Bool) (B : List Nat) (hB : ∀ x ∈ B, x < 256) (hl : B.length < 4611686018427387904) (hk : 10 * B.length + 2 ≤ k) :
    marlineref02_Sum.f k a0 (ofN B) = some ((sumN a0 B : Nat) : Int) := by
  have hm := more_lt a0 (widthOf a0 - 1) (by cases a0 <;> decide) B hB
  unfold marlineref02_Sum.f sumN
  cases a0
  · have h := r_More k false 65535 (by decide) B hB hl hk
    have e : 65535 % widthOf false = widthOf false - 1 := by decide
    rw [e] at h
    have h' : marlineref02_More.f k false 65535 (ofN B) = _ := h
    rw [if_neg (by decide), h', Option.bind_some]
    have := sub_xor 16 _ hm
    have hw : widthOf false = 65536 := rfl
    rw [hw] at hm this ⊢
    generalize more (polyOf false) (65536 - 1) B = m at *
    rw [← this]
    congr 1
    omega
  · have h := r_More k true 4294967295 (by decide) B hB hl hk
    have e : 4294967295 % widthOf true = widthOf true - 1 := by decide
    rw [e] at h
    have h' : marlineref02_More.f k true 4294967295 (ofN B) = _ := h
    rw [if_pos rfl, h', Option.bind_some]
    have := sub_xor 32 _ hm
    have hw : widthOf true = 4294967296 := rfl
    rw [hw] at hm this ⊢
    generalize more (polyOf true) (4294967296 - 1) B = m at *
    rw [← this]
    congr 1
    omega
theorem r_Trailer (k : Nat) (a0 : Bool) (B : List Nat) (hB : ∀ x ∈ B, x < 256) (hl : B.length < 4611686018427387904) (hk : 10 * B.length + 2 ≤ k) :
    marlineref02_Trailer.f k a0 (ofN B) = some (ofN (trailerN a0 B)) := by
  have hs := sumN_lt32 a0 B hB
  unfold marlineref02_Trailer.f trailerN
  rw [r_Sum k a0 B hB hl hk]
  generalize sumN a0 B = s at *
  have e0 : Int.tmod (s : Int) 256 = ((s % 256 : Nat) : Int) := tmodN s 256
  have e1 : Int.tdiv (s : Int) 256 = ((s / 256 : Nat) : Int) := tdivN s 256
  have e2 : Int.tdiv (s : Int) 65536 = ((s / 65536 : Nat) : Int) := tdivN s 65536
  have e3 : Int.tdiv (s : Int) 16777216 = ((s / 16777216 : Nat) : Int) := tdivN s 16777216
  simp only [Option.bind_some, e0, e1, e2, e3]
  cases a0
  · simp only [Bool.false_eq_true, if_false, sizeN, bytesLE, ofN, List.map_cons, List.map_nil]
    congr 2
    · omega
    · congr 1; omega
  · simp only [if_true, sizeN, bytesLE, ofN, List.map_cons, List.map_nil, List.length_cons, List.length_nil]
    rw [if_pos (by omega)]
    simp only [List.cons_append, List.nil_append]
    congr 2
    · omega
    · congr 1
      · omega
      · congr 1
        · omega
        · congr 1; omega
theorem good_go (B T : List Nat) (at' : Nat) (hl : B.length = at' + T.length) (hb : B.length < 4611686018427387904) : ∀ (n i k : Nat), T.length = i + n →
    marlineref02_Good.l0 (k + n + 1) (ofN B) (at' : Int) (ofN T) (i : Int) = some (decide (B.drop (at' + i) = T.drop i)) := by
  intro n
  induction n with
  | zero =>
    intro i k he
    rw [marlineref02_Good.l0, if_neg (by rw [ofN_length]; omega), List.drop_eq_nil_of_le (by omega), List.drop_eq_nil_of_le (by omega)]; rfl
  | succ n ih =>
    intro i k he
    have ha : i < T.length := by omega
    have hb' : at' + i < B.length := by omega
    rw [show k + (n + 1) + 1 = (k + n + 1) + 1 by omega, marlineref02_Good.l0, if_pos (by rw [ofN_length]; omega)]
    rw [show wrap64 ((at' : Int) + (i : Int)) = ((at' + i : Nat) : Int) by unfold wrap64; omega]
    rw [if_pos (by omega), if_pos (by rw [ofN_length]; omega), if_pos (by omega), ofN_rd T i ha, ofN_rd B _ hb']
    rw [show wrap64 ((i : Int) + 1) = ((i + 1 : Nat) : Int) by unfold wrap64; omega, ih (i + 1) k (by omega), List.drop_eq_getElem_cons ha, List.drop_eq_getElem_cons hb']
    by_cases h : B[at' + i] = T[i]
    · rw [if_pos (by omega)]; simp only [h, List.cons.injEq, true_and, Nat.add_assoc]
    · rw [if_neg (by omega)]; simp only [List.cons.injEq, h, false_and, decide_false]
theorem r_Good (k : Nat) (a0 : Bool) (B : List Nat) (hB : ∀ x ∈ B, x < 256) (hl : B.length < 4611686018427387904) (hk : 10 * B.length + 10 ≤ k) :
    marlineref02_Good.f k a0 (ofN B) = some (goodB a0 B) := by
  unfold marlineref02_Good.f
  have hsz : sizeN a0 ≤ 4 := by cases a0 <;> decide
  rw [r_Size, Option.bind_some, ofN_length]
  have e : wrap64 ((B.length : Int) - (sizeN a0 : Int)) = (B.length : Int) - (sizeN a0 : Int) := by unfold wrap64; omega
  rw [e]
  by_cases h : sizeN a0 ≤ B.length
  · rw [if_neg (by omega), if_pos (by omega), if_pos (by omega)]
    have e2 : (B.length : Int) - (sizeN a0 : Int) = ((B.length - sizeN a0 : Nat) : Int) := by omega
    rw [e2, Int.toNat_natCast, ofN_take, r_Trailer k a0 _ (fun x hx => hB x (List.mem_of_mem_take hx)) (by rw [List.length_take]; omega) (by rw [List.length_take]; omega), Option.bind_some]
    have ht := trailerN_length a0 (B.take (B.length - sizeN a0))
    obtain ⟨m, rfl⟩ : ∃ m, k = m + sizeN a0 + 1 := ⟨k - (sizeN a0 + 1), by omega⟩
    rw [goodB_iff a0 B hB h]
    exact good_go B _ (B.length - sizeN a0) (by rw [ht]; omega) hl (sizeN a0) 0 m (by rw [ht]; omega)
  · rw [if_pos (by omega)]; simp [goodB, h]
end Go.Proofs.YtggpejjfgphihaaDoor.Pu
end

section
namespace Go.Proofs.YtggpejjfgphihaaDoor.Given
open Go.RowKit Go.Proofs.YtggpejjfgphihaaDoorW.PrintWords Go.Proofs.YtggpejjfgphihaaDoorW.PrintLast Go.Proofs.YtggpejjfgphihaaDoorW.PrintMore
open Go.Proofs.YtggpejjfgphihaaDoor.H
set_option linter.unusedVariables false
set_option linter.unusedSimpArgs false
theorem cut_none (A : Option Addr) (c n : Nat) (W : World) (hc : n ≤ c) : (Instr.slice 35 (.slice A n c) none (some (.int .i64 0)) none).run Tryd.prog W = .ok (.slice A 0 c) W := by
  obtain ⟨i0, hi0, _, hsz, _⟩ := info_parts info5
  have h := (print_take_of (P := Tryd.prog) (Value.int .u8) 0 35 5 .i64 Tryd.underlying35 hi0 hsz A c (List.replicate n (0 : Int)) 0 (by omega) (by omega) (by rw [List.length_replicate]; exact hc)).1 W
  rw [List.length_replicate] at h
  exact h
theorem app_zeros {ops : Array Oper} {rest : List Oper} {o : Oper} {a : Act} {Q : Exit → Act → World → Prop} {w0 W : World} (hgd : o.guard = none) (s x : Operand) (n : Nat) (hn : n < 100000)
    (ho : o.op = .call { callee := .builtin .append, args := #[s, x], argTypes := #[35, 3] }) (hs : a.eval s = .slice none 0 0) (hx : a.eval x = .int .i64 (wrap64 (n : Int))) (HB : Below w0.heap.size w0 W)
    (h : ∀ (A1 : Option Addr) (c1 : Nat) w1, (Kd.int .u8).R 5 w1 w0.heap.size (fun _ => True) (.slice A1 n c1) (List.replicate n (0 : Int)) → Below w0.heap.size w0 w1 → n ≤ c1 → wpList Tryd.prog ops Q rest (a.put o.dst (.slice A1 n c1)) w1) :
    wpList Tryd.prog ops Q (o :: rest) a W := by
  rw [show wrap64 (n : Int) = (n : Int) by unfold wrap64; omega] at hx
  refine Kd.R_append_zeros (Kd.int .u8) (w0 := w0) w0.heap.size hgd s x 35 3 5 (.int .u8 0) 1 ho Tryd.underlying35 Tryd.underlying3 info5 rfl (by decide) (by decide) (.slice none 0 0) ([] : List Int) (0 : Int) (n : Int) (fun _ => True) hs hx ?hz (fun _ _ => trivial) ?aO (by omega) HB HB.size ?aL ?_
  case hz => rfl
  case aO => exact Kd.R_nil _ _ _ _ _
  case aL => simp; omega
  intro v1 w1 ho hb hg hat
  rw [List.nil_append, Int.toNat_natCast] at ho
  obtain ⟨A1, c1, ev⟩ := Kd.R_slice ho
  subst ev
  rw [List.length_replicate] at ho ⊢
  have hc := (Kd.R_reads' ho).2.1
  exact h A1 c1 w1 ho hb hc
set_option maxHeartbeats 2000000 in
set_option maxRecDepth 100000 in
theorem grow_calls (n : Nat) (w : World) (hn : n < 100000) :
    Calls Tryd.prog 84 #[.slice none 0 0, .int .i64 (n : Int)] w fun e w' => ∃ v0_ : Value, e = .returned v0_ ∧ Kd.R (Kd.int .u8) 5 w' w.heap.size (fun _ => True) v0_ ([] : List Int) ∧ Below w.heap.size w w' := by
  have h0 : decide ((n : Int) < 0) = false := decide_eq_false (by omega)
  have e1 : IntKind.i64.wrap (0 - 0) = 0 := by decide
  have e2 : IntKind.i64.wrap ((n : Int) - 0) = (n : Int) := by rw [i64_w]; unfold wrap64; omega
  have e3 : wrap64 (0 - 0) = 0 := by unfold wrap64; omega
  have e4 : wrap64 ((n : Int) - 0) = (n : Int) := by unfold wrap64; omega
  have e5 : wrap64 (n : Int) = (n : Int) := by unfold wrap64; omega
  have HN := Aside0.mk hn
  by_cases hz : 0 < (n : Int)
  · have hz1 : decide (0 < (n : Int)) = true := decide_eq_true hz
    have hz2 : decide (0 < n) = true := decide_eq_true (by omega)
    have HZ := Aside0.mk hz
    clear hn hz
    go_enter Tryd.func84, Tryd.ntmps84
    go_upto_region 5 with (fail)
    have HB := Aside0.mk (Below.refl w.heap.size w)
    have hcut := cut_none
    go_wp2_with (first
      | ((with_reducible refine gate_builtin (b := .append) (xs := #[.tmp 20, .tmp 21]) rfl ?_)
         (try (refine gate_guard (by rfl) ?_; dsimp only))
         at_builtin
         refine app_zeros (w0 := w) rfl (.tmp 20) (.tmp 21) n HN.out rfl rfl rfl HB.out ?_
         intro A1 c1 w1 ho hb hc
         have HO := Aside0.mk ho
         have HB1 := Aside0.mk hb
         have hcut1 := fun W => hcut A1 c1 n W hc
         clear ho hb hc))
    go_ret
    exact ⟨_, rfl, Kd.R_take (m := 0) HO.out (Nat.zero_le _), HB1.out⟩
  · have hz1 : decide (0 < (n : Int)) = false := decide_eq_false hz
    have hz2 : decide (0 < n) = false := decide_eq_false (by omega)
    clear hn hz
    go_enter Tryd.func84, Tryd.ntmps84
    go_wp2_with fail
    go_ret
    exact ⟨_, rfl, Kd.R_nil _ _ _ _ _, Below.refl _ _⟩
end Go.Proofs.YtggpejjfgphihaaDoor.Given
end

section
namespace Go.Proofs.YtggpejjfgphihaaDoor.Given
open Go.RowKit Go.Proofs.YtggpejjfgphihaaDoorW.PrintWords Go.Proofs.YtggpejjfgphihaaDoorW.PrintLast Go.Proofs.YtggpejjfgphihaaDoorW.PrintMore
open Go.Proofs.YtggpejjfgphihaaDoor.H
set_option linter.unusedVariables false
set_option linter.unusedSimpArgs false
def tot (ls : List (List Int)) (k : Nat) : Nat := (ls.take k).flatten.length
theorem take_rd (ls : List (List Int)) (k : Nat) (h : k < ls.length) : (ls.take (k + 1)).flatten = (ls.take k).flatten ++ rd_L1 ls (k : Int) := by
  rw [List.take_succ_eq_append_getElem h, List.flatten_append]
  simp [rd_L1, List.getD_eq_getElem?_getD, h]
theorem tot_succ (ls : List (List Int)) (k : Nat) (h : k < ls.length) : tot ls (k + 1) = tot ls k + (rd_L1 ls (k : Int)).length := by
  unfold tot
  rw [take_rd ls k h, List.length_append]
theorem tot_le (ls : List (List Int)) (k : Nat) : tot ls k ≤ ls.flatten.length := by
  unfold tot
  have h := List.take_append_drop k ls
  have e : ls.flatten = (ls.take k).flatten ++ (ls.drop k).flatten := by rw [← List.flatten_append, h]
  rw [e, List.length_append]; omega
def slices_Concat_byte_byte.f (l0 : List (List Int)) : Option (List Int) := if l0.flatten.length < 100000 ∧ l0.length < 1000 then some l0.flatten else none
set_option maxHeartbeats 2000000 in
set_option maxRecDepth 100000 in
theorem slices_Concat_byte_byte.calls (A0 : Option Addr) (c0 : Nat) (l0 : List (List Int)) (r : List Int) (w : World) (hr0 : Kd.C (Kd.slice 5 (Kd.int .u8)) w A0 l0.length l0) (hc0 : l0.length ≤ c0) (h : slices_Concat_byte_byte.f l0 = some r) :
    Calls Tryd.prog 70 #[.slice A0 l0.length c0] w fun e w' => ∃ v0_ : Value, e = .returned v0_ ∧ Kd.R (Kd.int .u8) 5 w' w.heap.size (fun _ => True) v0_ r ∧ Below w.heap.size w w' := by
  unfold slices_Concat_byte_byte.f at h
  split at h
  case isFalse => cases h
  rename_i hl
  obtain rfl := Option.some.inj h
  clear h
  obtain ⟨hl1, hl2⟩ := hl
  have HR := Aside0.mk hr0
  have HT := Aside0.mk hl1
  obtain ⟨n, hn⟩ : ∃ n, n = l0.length := ⟨_, rfl⟩
  rw [← hn] at hl2 ⊢
  have HN := Aside0.mk hn
  clear hr0 hc0 hl1 hn
  go_enter Tryd.func70, Tryd.ntmps70
  go_wp2
  go_loop [3, 11] (fun s i => ∃ k : Nat, k ≤ n ∧ i = .int .i64 (k : Int) ∧ s = .int .i64 (tot l0 k : Int)) (fun _ i => n - (intOf i).toNat)
  case atStart => exact ⟨0, Nat.zero_le _, rfl, rfl⟩
  case round =>
    obtain ⟨k, hk, rfl, rfl⟩ := hrel
    have hb0 : tot l0 k < 100000 := by have := tot_le l0 k; have := HT.out; omega
    by_cases hlt : k < n
    · obtain ⟨ad, A1, c1, e, hcell, hc, hC⟩ := at_L1 HR.out (k : Int) (by omega) (by have := HN.out; omega)
      have hs := tot_succ l0 k (by have := HN.out; omega)
      have hb1 : tot l0 (k + 1) < 100000 := by have := tot_le l0 (k + 1); have := HT.out; omega
      cases e
      rw [Int.toNat_natCast] at hcell
      generalize (rd_L1 l0 (k : Int)).length = m at hs hcell hc
      have HS := Aside0.mk hs
      have hb2 : tot l0 k + m < 100000 := by omega
      have hnn : decide ((tot l0 k : Int) + (m : Int) < 0) = false := decide_eq_false (by omega)
      clear hs hb1 hC hc
      go_wp2
      go_round
      case rel => exact ⟨k + 1, by omega, by go_num, by rw [HS.out]; go_num⟩
      case measure => simp [intOf]; omega
    · obtain rfl : k = n := by omega
      clear hlt hk
      go_wp2_with fail
      refine (grow_calls (tot l0 k) _ hb0).mono ?_
      rintro e w1 ⟨v, rfl, ho, hb⟩
      have HO := Aside0.mk ho
      have HB := Aside0.mk hb
      clear ho hb
      go_wp2
      go_loopw [6, 27] (fun v i wr => ∃ j : Nat, j ≤ k ∧ i = .int .i64 (j : Int) ∧ Aside0 (Kd.R (Kd.int .u8) 5 wr w.heap.size (fun _ => True) v (l0.take j).flatten) ∧ Aside0 (Below w.heap.size w wr)) (fun _ i _ => k - (intOf i).toNat)
      case atStart => exact ⟨0, Nat.zero_le _, rfl, HO, HB⟩
      case round =>
        clear HO HB
        obtain ⟨j, hj, rfl, HO, HB⟩ := hrel
        by_cases hlt : j < k
        · obtain ⟨ad, A1, c1, e, hcell, hc, hC⟩ := at_L1 (Kd.C_below HR.out HB.out) (j : Int) (by omega) (by have := HN.out; omega)
          have hb1 : (l0.take j).flatten.length + (rd_L1 l0 (j : Int)).length < 100000 := by have h1 := tot_succ l0 j (by have := HN.out; omega); have := tot_le l0 (j + 1); have := HT.out; unfold tot at *; omega
          have ht := take_rd l0 j (by have := HN.out; omega)
          cases e
          rw [Int.toNat_natCast] at hcell
          generalize rd_L1 l0 (j : Int) = m at ht hcell hc hC hb1
          have HT2 := Aside0.mk ht
          have HC := Aside0.mk hC
          have HL := Aside0.mk hb1
          clear ht hC hb1 hc
          go_wp2_with (first
            | ((with_reducible refine gate_builtin (b := .append) (xs := #[.tmp 31, .tmp 32]) rfl ?_)
               (try (refine gate_guard (by rfl) ?_; dsimp only))
               at_builtin
               refine Kd.R_append_rows (Kd.int .u8) (w0 := w) w.heap.size rfl (.tmp 31) (.tmp 32) 35 5 (.int .u8 0) 1 rfl Tryd.underlying35 info5 rfl (by decide) (by omega) _ (l0.take j).flatten m _ _ _ (fun _ => True) (fun _ => False) rfl rfl ?aO ?aR (fun _ _ h => h) (fun _ h => h.elim) ?aF ?aB ?aS ?aL ?_
               (case aR => exact HC.out)
               (case aB => exact HB.out)
               (case aF => exact (fun _ _ => trivial))
               (case aO => exact HO.out)
               (case aS => exact HB.out.size)
               (case aL => have := HL.out; omega)
               intro v2 w2 ho hb hg hat
               have HO2 := Aside0.mk ho
               have HB2 := Aside0.mk hb
               clear ho hb hg hat))
          go_roundw
          case rel => exact ⟨j + 1, by omega, by go_num, ⟨by rw [HT2.out]; exact HO2.out⟩, HB2⟩
          case measure => simp [intOf]; omega
        · obtain rfl : j = k := by omega
          clear hlt
          go_wp2
          go_ret
          exact ⟨_, rfl, by have h := HO.out; rw [show (l0.take j) = l0 by rw [HN.out, List.take_length]] at h; exact h, HB.out⟩
end Go.Proofs.YtggpejjfgphihaaDoor.Given
end

section
namespace Go.Proofs.YtggpejjfgphihaaDoor.Given
open Go.RowKit Go.Proofs.YtggpejjfgphihaaDoorW.PrintWords Go.Proofs.YtggpejjfgphihaaDoorW.PrintLast Go.Proofs.YtggpejjfgphihaaDoorW.PrintMore
open Go.Proofs.YtggpejjfgphihaaDoor.H Go.Proofs.YtggpejjfgphihaaDoor.D
set_option linter.unusedVariables false
set_option linter.unusedSimpArgs false
def frame_Build.f (k : Nat) (a0_0 a0_1 a0_2 a0_3 : Bool) (a0_4 a0_5 a0_6 : Int) (a1 : Int) (l2 : List Int) : Option (List Int × Int) :=
  (proto_Right.f a1).bind fun rt => if rt = true then (if (l2.length : Int) > a0_6 then some ([], 3) else
    (head_Put.f k a0_0 a0_1 a0_2 a0_3 a0_4 a0_5 a0_6 a1).bind fun h => (slices_Concat_byte_byte.f [h, l2]).bind fun b => (fcs_Trailer.f k a0_1 b).bind fun t => if b.length + t.length < 1000000 then some (b ++ t, 0) else none) else some ([], 7)
theorem two_read (W : World) (A B : Option Addr) (a b : List Int) (c d : Nat) (hA : Kd.C (Kd.int .u8) W A a.length a) (ha : a.length ≤ c) (hB : Kd.C (Kd.int .u8) W B b.length b) (hb : b.length ≤ d) :
    Kd.C (Kd.slice 5 (Kd.int .u8)) (W.alloc (.cells #[.slice A a.length c, .slice B b.length d] 35)) (some ⟨W.heap.size, 0, none⟩) ([a, b] : List (List Int)).length [a, b] := by
  have hw := below_alloc (Below.refl W.heap.size W) (.cells #[.slice A a.length c, .slice B b.length d] 35)
  refine ⟨rfl, by simp, fun _ => ⟨_, rfl, fun j p hj => ?_⟩⟩
  match j, hj with
  | 0, hj =>
    obtain rfl : a = p := by simpa using hj
    refine ⟨[.slice A a.length c], rfl, ⟨A, c, rfl, ha, Kd.C_below hA hw⟩, fun i u hu => ?_⟩
    match i, hu with
    | 0, hu =>
      rw [add_plain, cell_of_row _ _ _ _ 35 (0, 0) (heap_alloc_new W _)]
      exact hu
    | i + 1, hu => exact absurd hu (by simp)
  | 1, hj =>
    obtain rfl : b = p := by simpa using hj
    refine ⟨[.slice B b.length d], rfl, ⟨B, d, rfl, hb, Kd.C_below hB hw⟩, fun i u hu => ?_⟩
    match i, hu with
    | 0, hu =>
      rw [add_plain, cell_of_row _ _ _ _ 35 (0, 0) (heap_alloc_new W _)]
      exact hu
    | i + 1, hu => exact absurd hu (by simp)
  | j + 2, hj => exact absurd hj (by simp)
theorem app_rows {ops : Array Oper} {rest : List Oper} {o : Oper} {a : Act} {Q : Exit → Act → World → Prop} {w0 W : World} (hgd : o.guard = none) (s x : Operand) (v : Value) (xs ys : List Int) (A : Option Addr) (m c : Nat)
    (ho : o.op = .call { callee := .builtin .append, args := #[s, x], argTypes := #[35, 35] }) (hs : a.eval s = v) (hx : a.eval x = .slice A m c)
    (HO : (Kd.int .u8).R 5 W w0.heap.size (fun _ => True) v xs) (HR : Kd.C (Kd.int .u8) W A m ys) (HB : Below w0.heap.size w0 W) (hl : xs.length + ys.length < 1000000)
    (h : ∀ v1 w1, (Kd.int .u8).R 5 w1 w0.heap.size (fun _ => True) v1 (xs ++ ys) → Below w0.heap.size w0 w1 → wpList Tryd.prog ops Q rest (a.put o.dst v1) w1) :
    wpList Tryd.prog ops Q (o :: rest) a W := by
  have hm : ys.length = m := HR.1
  refine Kd.R_append_rows (Kd.int .u8) (w0 := w0) w0.heap.size hgd s x 35 5 (.int .u8 0) 1 ho Tryd.underlying35 H.info5 rfl (by decide) (by omega) v xs ys A m c (fun _ => True) (fun _ => False) hs hx HO (Rr := (Kd.int .u8).K W) HR (fun _ _ h => h) (fun _ h => h.elim) (fun _ _ => trivial) HB HB.size (by omega) ?_
  intro v1 w1 ho hb _ _
  exact h v1 w1 ho hb
set_option maxHeartbeats 8000000 in
set_option maxRecDepth 100000 in
theorem frame_Build.calls (k : Nat) (a0_0 a0_1 a0_2 a0_3 : Bool) (a0_4 a0_5 a0_6 : Int) (a1 : Int) (A2 : Option Addr) (c2 : Nat) (l2 : List Int) (r1 : List Int) (r2 : Int) (w : World) (hr2 : Kd.C (Kd.int .u8) w A2 l2.length l2) (hc2 : l2.length ≤ c2) (hgF : GF w) (hgH : GH w)
    (h : frame_Build.f k a0_0 a0_1 a0_2 a0_3 a0_4 a0_5 a0_6 a1 l2 = some (r1, r2)) :
    Calls Tryd.prog 48 #[.agg #[.bool a0_0, .bool a0_1, .bool a0_2, .bool a0_3, .int .u32 a0_4, .int .u32 a0_5, .int .i64 a0_6], .int .u16 a1, .slice A2 l2.length c2] w fun e w' => ∃ v0_ : Value, e = .returned (.tuple #[v0_, .int .i64 r2]) ∧ Kd.R (Kd.int .u8) 5 w' w.heap.size (fun _ => True) v0_ r1 ∧ Below w.heap.size w w' := by
  have HGF := Aside0.mk hgF
  have HGH := Aside0.mk hgH
  have HR := Aside0.mk hr2
  have HC := Aside0.mk hc2
  unfold frame_Build.f at h
  obtain ⟨rt, hrt, h0⟩ := Option.bind_eq_some_iff.1 h
  have HRT := Aside0.mk hrt
  have H := Aside0.mk h0
  clear hgF hgH hr2 hc2 h hrt h0
  obtain ⟨n, hn⟩ : ∃ n, n = l2.length := ⟨_, rfl⟩
  have HN := Aside0.mk hn
  rw [← hn]
  go_enter Tryd.func48, Tryd.ntmps48
  go_upto_region 1 with (fail)
  obtain ⟨w1, hw1⟩ : ∃ W, W = w.alloc (.cells #[.bool a0_0, .bool a0_1, .bool a0_2, .bool a0_3, .int .u32 a0_4, .int .u32 a0_5, .int .i64 a0_6] 26) := ⟨_, rfl⟩
  have hb1 : Below w.heap.size w w1 := by rw [hw1]; exact below_alloc (Below.refl _ _) _
  have ca0 : w1.cell? ⟨w.heap.size, 0, none⟩ = some (.bool a0_0) := by rw [hw1]; exact cell_of_row _ _ 0 _ 26 (0, 0) (heap_alloc_new w _)
  have ca1 : w1.cell? ⟨w.heap.size, 1, none⟩ = some (.bool a0_1) := by rw [hw1]; exact cell_of_row _ _ 1 _ 26 (0, 0) (heap_alloc_new w _)
  have ca2 : w1.cell? ⟨w.heap.size, 2, none⟩ = some (.bool a0_2) := by rw [hw1]; exact cell_of_row _ _ 2 _ 26 (0, 0) (heap_alloc_new w _)
  have ca3 : w1.cell? ⟨w.heap.size, 3, none⟩ = some (.bool a0_3) := by rw [hw1]; exact cell_of_row _ _ 3 _ 26 (0, 0) (heap_alloc_new w _)
  have ca4 : w1.cell? ⟨w.heap.size, 4, none⟩ = some (.int .u32 a0_4) := by rw [hw1]; exact cell_of_row _ _ 4 _ 26 (0, 0) (heap_alloc_new w _)
  have ca5 : w1.cell? ⟨w.heap.size, 5, none⟩ = some (.int .u32 a0_5) := by rw [hw1]; exact cell_of_row _ _ 5 _ 26 (0, 0) (heap_alloc_new w _)
  have ca6 : w1.cell? ⟨w.heap.size, 6, none⟩ = some (.int .i64 a0_6) := by rw [hw1]; exact cell_of_row _ _ 6 _ 26 (0, 0) (heap_alloc_new w _)
  rw [← hw1]
  have HB1 := Aside0.mk hb1
  clear hb1 hw1 hn
  go_wp2_with fail
  refine (proto_Right.calls a1 rt _ HRT.out).mono ?_
  rintro e w2 ⟨rfl, hd⟩
  have hb2 := hd.below
  have d0 := pw_cell_below hb2 ca0
  have d1 := pw_cell_below hb2 ca1
  have d2 := pw_cell_below hb2 ca2
  have d3 := pw_cell_below hb2 ca3
  have d4 := pw_cell_below hb2 ca4
  have d5 := pw_cell_below hb2 ca5
  have d6 := pw_cell_below hb2 ca6
  have HB2 := Aside0.mk (below_then HB1.out HB1.out.size hb2)
  clear hd hb2 ca0 ca1 ca2 ca3 ca4 ca5 ca6
  cases rt with
  | false =>
    have H2 := H.out
    obtain ⟨rfl, rfl⟩ : [] = r1 ∧ 7 = r2 := by simpa using H2
    clear H2
    go_wp2_with fail
    go_ret2
    exact ⟨_, rfl, Kd.R_nil _ _ _ _ _, HB2.out⟩
  | true =>
    by_cases hl : (l2.length : Int) > a0_6
    · have H2 := H.out
      rw [if_pos rfl, if_pos hl] at H2
      obtain ⟨rfl, rfl⟩ : [] = r1 ∧ 3 = r2 := by simpa using H2
      have hl2 : decide (a0_6 < (n : Int)) = true := decide_eq_true (by rw [HN.out]; exact hl)
      clear H2 hl
      go_wp2_with fail
      go_ret2
      exact ⟨_, rfl, Kd.R_nil _ _ _ _ _, HB2.out⟩
    · have H2 := H.out
      rw [if_pos rfl, if_neg hl] at H2
      obtain ⟨h, hh, H3⟩ := Option.bind_eq_some_iff.1 H2
      obtain ⟨b, hb, H4⟩ := Option.bind_eq_some_iff.1 H3
      obtain ⟨t, ht, H5⟩ := Option.bind_eq_some_iff.1 H4
      split at H5
      case isFalse => cases H5
      rename_i hlen
      have HLEN := Aside0.mk hlen
      obtain ⟨rfl, rfl⟩ : b ++ t = r1 ∧ 0 = r2 := by simpa using H5
      have HH := Aside0.mk hh
      have HCC := Aside0.mk hb
      have HT := Aside0.mk ht
      have hl2 : decide (a0_6 < (n : Int)) = false := decide_eq_false (by rw [HN.out]; exact hl)
      clear H2 H3 H4 H5 hl hh hb ht hlen
      go_wp2_with fail
      refine (head_Put.calls k a0_0 a0_1 a0_2 a0_3 a0_4 a0_5 a0_6 a1 h _ (GH_below HGH.out HB2.out) HH.out).mono ?_
      rintro e w3 ⟨v, rfl, hq, hb3⟩
      have e1 := pw_cell_below hb3 d1
      have HB3 := Aside0.mk (below_then HB2.out HB2.out.size hb3)
      obtain ⟨A1, c1, rfl, hc1, hq1⟩ := Kd.Q_reads hq
      have HR3 := Aside0.mk (two_read w3 A1 A2 h l2 c1 c2 hq1 hc1 (Kd.C_below HR.out HB3.out) HC.out)
      have HB4 := Aside0.mk (below_alloc HB3.out (.cells #[.slice A1 h.length c1, .slice A2 l2.length c2] 35))
      have e2 := pw_cell_below (below_alloc (Below.refl w3.heap.size w3) (.cells #[.slice A1 h.length c1, .slice A2 l2.length c2] 35)) e1
      rw [← HN.out] at HR3 HB4 e2
      clear hq hb3 hq1 hc1 d0 d1 d2 d3 d4 d5 d6 e1
      go_wp2_with fail
      refine (slices_Concat_byte_byte.calls _ 2 [h, l2] b _ HR3.out (Nat.le_refl 2) HCC.out).mono ?_
      rintro e w5 ⟨v5, rfl, ho5, hb5⟩
      have e5 := pw_cell_below hb5 e2
      have HB5 := Aside0.mk (below_then HB4.out HB4.out.size hb5)
      have HO5 := Aside0.mk (Kd.R_lower ho5 HB4.out.size)
      obtain ⟨A5, c5, rfl, hc5, hq5⟩ := Kd.R_reads ho5
      have HC5 := Aside0.mk hc5
      have HQ5 := Aside0.mk hq5
      clear ho5 hb5 e2 hc5 hq5 HB4
      go_wp2_with fail
      refine (fcs_Trailer.calls k a0_1 A5 c5 b t _ HQ5.out HC5.out (GF_below HGF.out HB5.out) HT.out).mono ?_
      rintro e w6 ⟨v6, rfl, ho6, hb6⟩
      have HB6 := Aside0.mk (below_then HB5.out HB5.out.size hb6)
      have HO6 := Aside0.mk (Kd.R_below HO5.out hb6)
      obtain ⟨A6, c6, rfl, hc6, hq6⟩ := Kd.R_reads ho6
      have HQ6 := Aside0.mk hq6
      clear ho6 hb6 hc6 hq6 e5
      go_wp2_with (first
            | ((with_reducible refine gate_builtin (b := .append) (xs := #[.tmp 25, .tmp 29]) rfl ?_)
               (try (refine gate_guard (by rfl) ?_; dsimp only))
               at_builtin
               refine app_rows (w0 := w) rfl (.tmp 25) (.tmp 29) _ b t A6 t.length c6 rfl rfl rfl HO6.out HQ6.out HB6.out HLEN.out ?_
               intro v7 w7 ho hb
               have HO7 := Aside0.mk ho
               have HB7 := Aside0.mk hb
               clear ho hb))
      go_ret2
      exact ⟨_, rfl, HO7.out, HB7.out⟩
end Go.Proofs.YtggpejjfgphihaaDoor.Given
end

section
namespace Go.Proofs.YtggpejjfgphihaaDoor.Given
open Go.RowKit Go.Proofs.YtggpejjfgphihaaDoorW.PrintWords Go.Proofs.YtggpejjfgphihaaDoorW.PrintLast Go.Proofs.YtggpejjfgphihaaDoorW.PrintMore
open Go.Proofs.YtggpejjfgphihaaDoor.H
set_option linter.unusedVariables false
set_option linter.unusedSimpArgs false
theorem nil_is (n c : Nat) (W : World) : (binOp BinOp.eql 35 (.slice none n c) (.slice none 0 0)).run Tryd.prog W = .ok (.bool true) W := by kernel_rfl
theorem nil_not (a : Addr) (n c : Nat) (W : World) : (binOp BinOp.eql 35 (.slice (some a) n c) (.slice none 0 0)).run Tryd.prog W = .ok (.bool false) W := by kernel_rfl
def slices_Clone_byte_byte.f (l0 : List Int) : Option (List Int) := if l0.length < 140737488355328 then some l0 else none
set_option maxHeartbeats 2000000 in
set_option maxRecDepth 100000 in
theorem slices_Clone_byte_byte.calls (A0 : Option Addr) (c0 : Nat) (l0 : List Int) (r : List Int) (w : World) (hr0 : Kd.C (Kd.int .u8) w A0 l0.length l0) (hc0 : l0.length ≤ c0) (h : slices_Clone_byte_byte.f l0 = some r) :
    Calls Tryd.prog 71 #[.slice A0 l0.length c0] w fun e w' => ∃ v0_ : Value, e = .returned v0_ ∧ Kd.R (Kd.int .u8) 5 w' w.heap.size (fun _ => True) v0_ r ∧ Below w.heap.size w w' := by
  unfold slices_Clone_byte_byte.f at h
  split at h
  case isFalse => cases h
  rename_i hl
  obtain rfl := Option.some.inj h
  clear h
  have HR := Aside0.mk hr0
  have HL := Aside0.mk hl
  cases A0 with
  | none =>
    have h0 : l0 = [] := by
      obtain ⟨_, _, hh⟩ := Kd.reads_of_C (d := (0 : Int)) hr0
      cases l0 with
      | nil => rfl
      | cons x xs => obtain ⟨ad, ha, _⟩ := hh (by simp); cases ha
    subst h0
    clear hr0 hc0 hl
    have hnil := nil_is
    go_enter Tryd.func71, Tryd.ntmps71
    go_wp2_with fail
    go_ret
    exact ⟨_, rfl, Kd.R_nil _ _ _ _ _, Below.refl _ _⟩
  | some ad =>
    clear hr0 hc0 hl
    have hnil := nil_not
    go_enter Tryd.func71, Tryd.ntmps71
    go_wp2_with (first
      | ((with_reducible refine gate_dst (N := 5) rfl ?_)
         (try (refine gate_guard (by rfl) ?_; dsimp only))
         refine Kd.R_lit (Kd.int .u8) _ 5 ?hg (N := 5) ?hd (xs := ([] : List Int)) (inner := []) (ok := fun _ => True) (okp := fun _ => True) ?hr ?hp (fun _ hk => hk) trivial (Below.refl _ _) (Nat.le_refl _) (by simp) ?_
         (case hd => rfl)
         (case hg => rfl)
         (case hr => first | (go_simp; done) | (go_simp; rfl))
         (case hp => exact (Reps.none _ _))
         intro v w1 ho hb hg_ hnew_
         clear hg_ hnew_
         have HO := Aside0.mk ho
         have HB1 := Aside0.mk hb
         clear ho hb)
      | ((with_reducible refine gate_builtin (b := .append) (xs := #[.tmp 5, .tmp 6]) rfl ?_)
         (try (refine gate_guard (by rfl) ?_; dsimp only))
         at_builtin
         refine Kd.R_append_rows (Kd.int .u8) (w0 := w) w.heap.size rfl (.tmp 5) (.tmp 6) 35 5 (.int .u8 0) 1 rfl Tryd.underlying35 info5 rfl (by decide) (by omega) v [] l0 _ _ _ (fun _ => True) (fun _ => False) rfl rfl ?aO ?aR (fun _ _ h => h) (fun _ h => h.elim) ?aF ?aB ?aS ?aL ?_
         (case aR => exact (Kd.C_below HR.out HB1.out))
         (case aB => exact HB1.out)
         (case aF => exact (fun _ _ => trivial))
         (case aO => exact HO.out)
         (case aS => exact HB1.out.size)
         (case aL => have := HL.out; simp; omega)
         intro v2 w2 ho hb hg hat
         have HO2 := Aside0.mk ho
         have HB2 := Aside0.mk hb
         clear ho hb hg hat))
    go_ret
    exact ⟨_, rfl, HO2.out, HB2.out⟩
end Go.Proofs.YtggpejjfgphihaaDoor.Given
end

section
namespace Go.Proofs.YtggpejjfgphihaaDoor.C
open Go.Proofs.YtggpejjfgphihaaDoor.Given Go.RowKit Go.Proofs.YtggpejjfgphihaaDoorW.PrintWords Go.Proofs.YtggpejjfgphihaaDoorW.PrintLast Go.Proofs.YtggpejjfgphihaaDoorW.PrintMore
attribute [local go_sem] max2_int min2_int max_two min_two max_three min_three max_four min_four
set_option linter.unusedVariables false
set_option linter.unusedSimpArgs false
def errW : Option Int → Value
  | none => .nilIface
  | some c => .iface 0 (.int .i64 c)
theorem errW_none : errW none = .nilIface := rfl
theorem errW_some (c : Int) : errW (some c) = .iface 0 (.int .i64 c) := rfl
theorem info5 : (Tryd.prog.info? 5).map (fun i => (i.zero, i.size, i.bytes)) = some (some (.int .u8 0), 1, 1) := by kernel_rfl
end Go.Proofs.YtggpejjfgphihaaDoor.C
end

section
namespace Go.Proofs.YtggpejjfgphihaaDoor.C
open Go.Proofs.YtggpejjfgphihaaDoor.Given Go.RowKit Go.Proofs.YtggpejjfgphihaaDoorW.PrintWords Go.Proofs.YtggpejjfgphihaaDoorW.PrintLast Go.Proofs.YtggpejjfgphihaaDoorW.PrintMore
attribute [local go_sem] max2_int min2_int max_two min_two max_three min_three max_four min_four
set_option linter.unusedVariables false
set_option linter.unusedSimpArgs false
def fcs_Size.f (a0 : Bool) : Option (Int) := (fcs_of.f a0).bind fun bt101 => (some bt101.2.2.2)
set_option maxHeartbeats 8000000 in
set_option maxRecDepth 100000 in
theorem fcs_Size.calls (a0 : Bool) (r : Int) (w : World) (hgF : GF w) (h : fcs_Size.f a0 = some r) :
    Calls Tryd.prog 41 #[.bool a0] w fun e w' => e = .returned (.int .i64 r) ∧ Below w.heap.size w w' := by
  have hfd80_3 : ∀ (v0_ v1_ v2_ v3_ : Value) (W_ : World), (Instr.field 80 (.agg #[v0_, v1_, v2_, v3_]) 3).run Tryd.prog W_ = .ok v3_ W_ := fun _ _ _ _ _ => by kernel_rfl
  have HGF := Aside0.mk hgF
  clear hgF
  have HB := Aside0.mk (Below.refl w.heap.size w)
  have H : ((fcs_of.f a0).bind fun bt101 => (some bt101.2.2.2)) = some r := h
  clear h
  replace H := Option.bind_eq_some_iff.mp H
  obtain ⟨⟨t101, t102, t103, t104⟩, A20, H⟩ := H
  replace H : (some t104) = some r := H
  have A2 := Aside0.mk A20
  clear A20
  obtain rfl := Option.some.inj H
  go_enter Tryd.func41, Tryd.ntmps41
  go_wp2_with (first | ((with_reducible refine gate_callee (f := 56) rfl ?_); refine goesL_ (some 4) rfl rfl Tryd.func56 (by kernel_rfl) rfl #[.bool a0] rfl (by (try simp only [List.map_toArray, List.map_cons, List.map_nil]); first | done | rfl | (simp only [List.length_drop, List.length_take]; rfl)) ?_; (with_reducible refine (fcs_of.calls a0 t101 t102 t103 t104 _ ?side1 A2.out).mono ?_); (case side1 => repeat (first | exact HGF.out | (with_reducible refine GF_alloc ?_ _) | (with_reducible refine GF_drewN ?_ _) | (with_reducible refine GF_drew ?_))); rintro e w3 ⟨rfl, hb⟩; refine ⟨_, rfl, ?_⟩; have n0_ := Aside0.mk (below_step (by repeat (first | (with_reducible first | exact HB.out | apply below_alloc | apply pw_below_drewN | apply below_drew1) | exact HB.out)) hb); clear HB; have HB := n0_; clear n0_; (try clear hb); (try clear hb2); (try clear hk); (try clear hi)))
  go_ret
  exact ⟨by first | rfl | (simp [errW_none, errW_some] <;> rfl) | (simp [*, errW_none, errW_some] <;> rfl), by repeat (first | (with_reducible first | exact HB.out | apply below_alloc | apply pw_below_drewN | apply below_drew1) | exact HB.out)⟩
def config_Most.f (a0_0 : Bool) (a0_1 : Bool) (a0_2 : Bool) (a0_3 : Bool) (a0_4 : Int) (a0_5 : Int) (a0_6 : Int) : Option (Int) := (fcs_Size.f a0_1).bind fun t106 => (some (wrap64 ((wrap64 (a0_6 + 4)) + t106)))
def config_Most.T1 : Bool × List (List Nat × List Nat) := (true, [([], []), ([0], [0]), ([1], [1]), ([], []), ([3], [3]), ([4], [4]), ([2, 5], [2, 5]), ([6, 5, 0, 1, 2, 3, 4, 5, 6], [6])])
def config_Most.B1 : List Nat := [0, 1, 3, 0, 8, 24, 63, 127]
theorem config_Most.tab1 : rtab .any (opsOf Tryd.f20 1) = config_Most.T1 := by kernel_rfl
theorem config_Most.bits1 : waitsOk config_Most.T1.2 config_Most.B1 = true := by kernel_rfl
set_option maxHeartbeats 8000000 in
set_option maxRecDepth 100000 in
theorem config_Most.calls (a0_0 : Bool) (a0_1 : Bool) (a0_2 : Bool) (a0_3 : Bool) (a0_4 : Int) (a0_5 : Int) (a0_6 : Int) (r : Int) (w : World) (hgF : GF w) (h : config_Most.f a0_0 a0_1 a0_2 a0_3 a0_4 a0_5 a0_6 = some r) :
    Calls Tryd.prog 20 #[.agg #[.bool a0_0, .bool a0_1, .bool a0_2, .bool a0_3, .int .u32 a0_4, .int .u32 a0_5, .int .i64 a0_6]] w fun e w' => e = .returned (.int .i64 r) ∧ Below w.heap.size w w' := by
  have hu26 := Tryd.underlying26
  have HGF := Aside0.mk hgF
  clear hgF
  have HB := Aside0.mk (Below.refl w.heap.size w)
  have H : ((fcs_Size.f a0_1).bind fun t106 => (some (wrap64 ((wrap64 (a0_6 + 4)) + t106)))) = some r := h
  clear h
  replace H := Option.bind_eq_some_iff.mp H
  obtain ⟨t106, A20, H⟩ := H
  replace H : (some (wrap64 ((wrap64 (a0_6 + 4)) + t106))) = some r := H
  have A2 := Aside0.mk A20
  clear A20
  obtain rfl := Option.some.inj H
  go_enter Tryd.func20, Tryd.ntmps20
  try go_wp2_with (first | ((with_reducible refine gate_dst (N := 1) rfl ?_); refine box_event ?hg (N := 1) ?hd (cs := #[.bool a0_0, .bool a0_1, .bool a0_2, .bool a0_3, .int .u32 a0_4, .int .u32 a0_5, .int .i64 a0_6]) (t := 26) ?hr ?_; (case hd => rfl); (case hg => rfl); (case hr => first | (go_simp; done) | (go_simp; rfl)); intro gb105 hg w3 hbox hb; have n0_ := Aside0.mk (below_step (by repeat (first | (with_reducible first | exact HB.out | apply below_alloc | apply pw_below_drewN | apply below_drew1) | exact HB.out)) hb); have n1_ := Aside0.mk (hbox); have n2_ := Aside0.mk ((by rw [hg]; exact (below_size (by repeat (first | (with_reducible first | exact HB.out | apply below_alloc | apply pw_below_drewN | apply below_drew1) | exact HB.out))) : w.heap.size ≤ gb105)); have n3_ := Aside0.mk ((by rw [hg]; exact (below_size (by repeat (first | (with_reducible first | exact HB.out | apply below_alloc | apply pw_below_drewN | apply below_drew1) | exact HB.out))) : w.heap.size ≤ gb105)); clear HB; have HB := n0_; have BK105 := n1_; have GW105 := n2_; have GE105 := n3_; clear n0_ n1_ n2_ n3_; clear hb hbox hg))
  have n0_ := Aside0.mk (blk_drew BK105.out)
  have n1_ := Aside0.mk (below_drew1 HB.out)
  clear BK105
  clear HB
  have BK105 := n0_
  have HB := n1_
  clear n0_ n1_
  refine start_ (n := 8) (S := fun w' => w'.cell? ⟨gb105, 0, none⟩ = some (.bool a0_0) ∧ w'.cell? ⟨gb105, 1, none⟩ = some (.bool a0_1) ∧ w'.cell? ⟨gb105, 2, none⟩ = some (.bool a0_2) ∧ w'.cell? ⟨gb105, 3, none⟩ = some (.bool a0_3) ∧ w'.cell? ⟨gb105, 4, none⟩ = some (.int .u32 a0_4) ∧ w'.cell? ⟨gb105, 5, none⟩ = some (.int .u32 a0_5) ∧ w'.cell? ⟨gb105, 6, none⟩ = some (.int .i64 a0_6)) (ds := []) #[false, false, false, false, false, false, false, false] (by kernel_rfl) rfl rfl ⟨(blk_cell BK105.out 0).trans rfl, (blk_cell BK105.out 1).trans rfl, (blk_cell BK105.out 2).trans rfl, (blk_cell BK105.out 3).trans rfl, (blk_cell BK105.out 4).trans rfl, (blk_cell BK105.out 5).trans rfl, (blk_cell BK105.out 6).trans rfl⟩ (fun hHeld => ?_); refine with_tabW config_Most.tab1 config_Most.bits1 (fun HT_ HW_ => ?_)
  generalize w3.drew = w4 at BK105 HB hHeld ⊢
  refine pure_ (i := 0) (N := some 3) (v := ?_) (a' := ?_) #[true, false, false, false, false, false, false, false] rfl rfl (any_of HT_.out (by kernel_rfl)) (fun _ _ _ h => h) (Or.inl ⟨by rfl, ?_⟩) ?_ ?_
  rotate_left
  · intro w'
    go_simp
    with_reducible rfl
  rotate_left
  · simp only [Act.put, List.setIfInBounds_toArray, List.set_cons_zero, List.set_cons_succ, i64_w, i32_w]
    rfl
  refine pure_ (i := 3) (N := some 6) (v := ?_) (a' := ?_) #[true, false, false, true, false, false, false, false] rfl rfl (any_of HT_.out (by kernel_rfl)) (fun _ _ _ h => h) (Or.inl ⟨by rfl, ?_⟩) ?_ ?_
  rotate_left
  · intro w'
    go_simp
    with_reducible rfl
  rotate_left
  · simp only [Act.put, List.setIfInBounds_toArray, List.set_cons_zero, List.set_cons_succ, i64_w, i32_w]
    rfl
  refine take_ (i := 1) (N := some 4) (v := ?_) (a' := ?_) #[true, true, false, true, false, false, false, false] rfl rfl (take_ofW HT_.out HW_.out (by kernel_rfl)) (fun _ _ _ h => h) (Or.inl ⟨by rfl, ?_⟩) hHeld ?_ ?_
  rotate_left
  · rintro w' ⟨s0, s1, s2, s3, s4, s5, s6⟩
    go_simp
    with_reducible rfl
  rotate_left
  · simp only [Act.put, List.setIfInBounds_toArray, List.set_cons_zero, List.set_cons_succ, i64_w, i32_w]
    rfl
  refine pure_ (i := 2) (N := some 5) (v := ?_) (a' := ?_) #[true, true, true, true, false, false, false, false] rfl rfl (any_of HT_.out (by kernel_rfl)) (fun _ _ _ h => h) (Or.inl ⟨by rfl, ?_⟩) ?_ ?_
  rotate_left
  · intro w'
    go_simp
    with_reducible rfl
  rotate_left
  · simp only [Act.put, List.setIfInBounds_toArray, List.set_cons_zero, List.set_cons_succ, i64_w, i32_w]
    rfl
  refine take_ (i := 4) (N := some 7) (v := ?_) (a' := ?_) #[true, true, true, true, true, false, false, false] rfl rfl (take_ofW HT_.out HW_.out (by kernel_rfl)) (fun _ _ _ h => h) (Or.inl ⟨by rfl, ?_⟩) hHeld ?_ ?_
  rotate_left
  · rintro w' ⟨s0, s1, s2, s3, s4, s5, s6⟩
    go_simp
    with_reducible rfl
  rotate_left
  · simp only [Act.put, List.setIfInBounds_toArray, List.set_cons_zero, List.set_cons_succ, i64_w, i32_w]
    rfl
  refine one_ (i := 5) (N := some 8) #[true, true, true, true, true, true, false, false] rfl rfl (one_of HT_.out (by kernel_rfl)) (by decide) (fun K hK => ?_)
  refine goes_ Tryd.func41 (by kernel_rfl) rfl #[.bool a0_1] (by rfl) rfl rfl (by (try simp only [List.map_toArray, List.map_cons, List.map_nil]); first | done | rfl | (simp only [List.length_drop, List.length_take]; rfl)) ?_
  with_reducible refine (fcs_Size.calls a0_1 t106 _ ?side1 A2.out).mono ?_
  (case side1 => repeat (first | exact (GF_below HGF.out HB.out) | (with_reducible refine GF_alloc ?_ _) | (with_reducible refine GF_drewN ?_ _) | (with_reducible refine GF_drew ?_)))
  rintro e w5 ⟨rfl, hb⟩
  refine ⟨_, rfl, ?_⟩
  have n0_ := Aside0.mk (blk_below (g := gb105) (o := .cells #[.bool a0_0, .bool a0_1, .bool a0_2, .bool a0_3, .int .u32 a0_4, .int .u32 a0_5, .int .i64 a0_6] 26 (0, 0)) (by (with_reducible repeat (first | refine blk_drewN ?_ _ | refine blk_drew ?_ | refine blk_alloc ?_ _)); exact BK105.out) hb)
  have n1_ := Aside0.mk (below_step (by repeat (first | (with_reducible first | exact HB.out | apply below_alloc | apply pw_below_drewN | apply below_drew1 | refine below_set ?_ GE105.out) | exact HB.out)) hb)
  clear BK105
  clear HB
  have BK105 := n0_
  have HB := n1_
  clear n0_ n1_
  (try clear hb)
  (try clear hb2)
  (try clear hk)
  (try clear hi)
  refine hK.out _ _ ⟨(blk_cell BK105.out 0).trans rfl, (blk_cell BK105.out 1).trans rfl, (blk_cell BK105.out 2).trans rfl, (blk_cell BK105.out 3).trans rfl, (blk_cell BK105.out 4).trans rfl, (blk_cell BK105.out 5).trans rfl, (blk_cell BK105.out 6).trans rfl⟩ (fun hHeld => ?_)
  clear hK K
  refine norm_ (a' := ?_) ?_ ?_
  rotate_left
  · show Act.put _ (some 8) _ = _
    simp only [Act.put, List.setIfInBounds_toArray, List.set_cons_zero, List.set_cons_succ, i64_w, i32_w]
    rfl
  refine pure_ (i := 6) (N := some 9) (v := ?_) (a' := ?_) #[true, true, true, true, true, true, true, false] rfl rfl (any_of HT_.out (by kernel_rfl)) (fun _ _ _ h => h) (Or.inl ⟨by rfl, ?_⟩) ?_ ?_
  rotate_left
  · intro w'
    go_simp
    with_reducible rfl
  rotate_left
  · simp only [Act.put, List.setIfInBounds_toArray, List.set_cons_zero, List.set_cons_succ, i64_w, i32_w]
    rfl
  refine pure_ (i := 7) (N := some 2) (v := ?_) (a' := ?_) #[true, true, true, true, true, true, true, true] rfl rfl (any_of HT_.out (by kernel_rfl)) (fun _ _ _ h => h) (Or.inl ⟨by rfl, ?_⟩) ?_ ?_
  rotate_left
  · intro w'
    go_simp
    with_reducible rfl
  rotate_left
  · simp only [Act.put, List.setIfInBounds_toArray, List.set_cons_zero, List.set_cons_succ, i64_w, i32_w]
    rfl
  refine done_ (done_of HT_.out (by kernel_rfl)) ?_
  try go_wp2
  go_ret
  exact ⟨by first | rfl | (simp [errW_none, errW_some] <;> rfl) | (simp [*, errW_none, errW_some] <;> rfl), by repeat (first | (with_reducible first | exact HB.out | apply below_alloc | apply pw_below_drewN | apply below_drew1 | refine below_set ?_ GE105.out) | exact HB.out)⟩
def marlineref08_Check.f (a0_0 : Bool) (a0_1 : Bool) (a0_2 : Bool) (a0_3 : Bool) (a0_4 : Int) (a0_5 : Int) (a0_6 : Int) : Option (Int) := if a0_6 < 64 then (some 5) else (if a0_6 > 65535 then (some 5) else (some 0))
set_option maxHeartbeats 8000000 in
set_option maxRecDepth 100000 in
theorem marlineref08_Check.calls (a0_0 : Bool) (a0_1 : Bool) (a0_2 : Bool) (a0_3 : Bool) (a0_4 : Int) (a0_5 : Int) (a0_6 : Int) (r : Int) (w : World) (h : marlineref08_Check.f a0_0 a0_1 a0_2 a0_3 a0_4 a0_5 a0_6 = some r) :
    Calls Tryd.prog 19 #[.agg #[.bool a0_0, .bool a0_1, .bool a0_2, .bool a0_3, .int .u32 a0_4, .int .u32 a0_5, .int .i64 a0_6]] w fun e w' => e = .returned (.int .i64 r) ∧ Below w.heap.size w w' := by
  have hu24 := Tryd.underlying24
  have HB := Aside0.mk (Below.refl w.heap.size w)
  have H : (if a0_6 < 64 then (some 5) else (if a0_6 > 65535 then (some 5) else (some 0))) = some r := h
  clear h
  by_cases c2 : a0_6 < 64
  · rw [if_pos c2] at H
    have c2b0 : decide (a0_6 < 64) = true := decide_eq_true c2
    clear c2
    obtain rfl := Option.some.inj H
    go_enter Tryd.func19, Tryd.ntmps19
    go_wp2_with (first | ((with_reducible refine gate_dst (N := 1) rfl ?_); refine box_event ?hg (N := 1) ?hd (cs := #[.bool a0_0, .bool a0_1, .bool a0_2, .bool a0_3, .int .u32 a0_4, .int .u32 a0_5, .int .i64 a0_6]) (t := 24) ?hr ?_; (case hd => rfl); (case hg => rfl); (case hr => first | (go_simp; done) | (go_simp; rfl)); intro gb117 hg w3 hbox hb; have n0_ := Aside0.mk (below_step (by repeat (first | (with_reducible first | exact HB.out | apply below_alloc | apply pw_below_drewN | apply below_drew1) | exact HB.out)) hb); have n1_ := Aside0.mk (hbox); have n2_ := Aside0.mk ((by rw [hg]; exact (below_size (by repeat (first | (with_reducible first | exact HB.out | apply below_alloc | apply pw_below_drewN | apply below_drew1) | exact HB.out))) : w.heap.size ≤ gb117)); have n3_ := Aside0.mk ((by rw [hg]; exact (below_size (by repeat (first | (with_reducible first | exact HB.out | apply below_alloc | apply pw_below_drewN | apply below_drew1) | exact HB.out))) : w.heap.size ≤ gb117)); clear HB; have HB := n0_; have BK117 := n1_; have GW117 := n2_; have GE117 := n3_; clear n0_ n1_ n2_ n3_; clear hb hbox hg; have hcz4_0 : w3.cell? ⟨gb117, 0, none⟩ = some (.bool a0_0) := (blk_cell BK117.out 0).trans rfl; have hcz4_1 : w3.cell? ⟨gb117, 1, none⟩ = some (.bool a0_1) := (blk_cell BK117.out 1).trans rfl; have hcz4_2 : w3.cell? ⟨gb117, 2, none⟩ = some (.bool a0_2) := (blk_cell BK117.out 2).trans rfl; have hcz4_3 : w3.cell? ⟨gb117, 3, none⟩ = some (.bool a0_3) := (blk_cell BK117.out 3).trans rfl; have hcz4_4 : w3.cell? ⟨gb117, 4, none⟩ = some (.int .u32 a0_4) := (blk_cell BK117.out 4).trans rfl; have hcz4_5 : w3.cell? ⟨gb117, 5, none⟩ = some (.int .u32 a0_5) := (blk_cell BK117.out 5).trans rfl; have hcz4_6 : w3.cell? ⟨gb117, 6, none⟩ = some (.int .i64 a0_6) := (blk_cell BK117.out 6).trans rfl; have hfz4_0 := blk_frozen BK117.out 0; have hfz4_1 := blk_frozen BK117.out 1; have hfz4_2 := blk_frozen BK117.out 2; have hfz4_3 := blk_frozen BK117.out 3; have hfz4_4 := blk_frozen BK117.out 4; have hfz4_5 := blk_frozen BK117.out 5; have hfz4_6 := blk_frozen BK117.out 6))
    go_ret
    exact ⟨by first | rfl | (simp [errW_none, errW_some] <;> rfl) | (simp [*, errW_none, errW_some] <;> rfl), by repeat (first | (with_reducible first | exact HB.out | apply below_alloc | apply pw_below_drewN | apply below_drew1 | refine below_set ?_ GE117.out) | exact HB.out)⟩
  · rw [if_neg c2] at H
    have c2b0 : decide (a0_6 < 64) = false := decide_eq_false c2
    clear c2
    by_cases c5 : a0_6 > 65535
    · rw [if_pos c5] at H
      have c5b0 : decide (65535 < a0_6) = true := decide_eq_true c5
      clear c5
      obtain rfl := Option.some.inj H
      go_enter Tryd.func19, Tryd.ntmps19
      go_wp2_with (first | ((with_reducible refine gate_dst (N := 1) rfl ?_); refine box_event ?hg (N := 1) ?hd (cs := #[.bool a0_0, .bool a0_1, .bool a0_2, .bool a0_3, .int .u32 a0_4, .int .u32 a0_5, .int .i64 a0_6]) (t := 24) ?hr ?_; (case hd => rfl); (case hg => rfl); (case hr => first | (go_simp; done) | (go_simp; rfl)); intro gb117 hg w6 hbox hb; have n0_ := Aside0.mk (below_step (by repeat (first | (with_reducible first | exact HB.out | apply below_alloc | apply pw_below_drewN | apply below_drew1) | exact HB.out)) hb); have n1_ := Aside0.mk (hbox); have n2_ := Aside0.mk ((by rw [hg]; exact (below_size (by repeat (first | (with_reducible first | exact HB.out | apply below_alloc | apply pw_below_drewN | apply below_drew1) | exact HB.out))) : w.heap.size ≤ gb117)); have n3_ := Aside0.mk ((by rw [hg]; exact (below_size (by repeat (first | (with_reducible first | exact HB.out | apply below_alloc | apply pw_below_drewN | apply below_drew1) | exact HB.out))) : w.heap.size ≤ gb117)); clear HB; have HB := n0_; have BK117 := n1_; have GW117 := n2_; have GE117 := n3_; clear n0_ n1_ n2_ n3_; clear hb hbox hg; have hcz7_0 : w6.cell? ⟨gb117, 0, none⟩ = some (.bool a0_0) := (blk_cell BK117.out 0).trans rfl; have hcz7_1 : w6.cell? ⟨gb117, 1, none⟩ = some (.bool a0_1) := (blk_cell BK117.out 1).trans rfl; have hcz7_2 : w6.cell? ⟨gb117, 2, none⟩ = some (.bool a0_2) := (blk_cell BK117.out 2).trans rfl; have hcz7_3 : w6.cell? ⟨gb117, 3, none⟩ = some (.bool a0_3) := (blk_cell BK117.out 3).trans rfl; have hcz7_4 : w6.cell? ⟨gb117, 4, none⟩ = some (.int .u32 a0_4) := (blk_cell BK117.out 4).trans rfl; have hcz7_5 : w6.cell? ⟨gb117, 5, none⟩ = some (.int .u32 a0_5) := (blk_cell BK117.out 5).trans rfl; have hcz7_6 : w6.cell? ⟨gb117, 6, none⟩ = some (.int .i64 a0_6) := (blk_cell BK117.out 6).trans rfl; have hfz7_0 := blk_frozen BK117.out 0; have hfz7_1 := blk_frozen BK117.out 1; have hfz7_2 := blk_frozen BK117.out 2; have hfz7_3 := blk_frozen BK117.out 3; have hfz7_4 := blk_frozen BK117.out 4; have hfz7_5 := blk_frozen BK117.out 5; have hfz7_6 := blk_frozen BK117.out 6))
      go_ret
      exact ⟨by first | rfl | (simp [errW_none, errW_some] <;> rfl) | (simp [*, errW_none, errW_some] <;> rfl), by repeat (first | (with_reducible first | exact HB.out | apply below_alloc | apply pw_below_drewN | apply below_drew1 | refine below_set ?_ GE117.out) | exact HB.out)⟩
    · rw [if_neg c5] at H
      have c5b0 : decide (65535 < a0_6) = false := decide_eq_false c5
      clear c5
      obtain rfl := Option.some.inj H
      go_enter Tryd.func19, Tryd.ntmps19
      go_wp2_with (first | ((with_reducible refine gate_dst (N := 1) rfl ?_); refine box_event ?hg (N := 1) ?hd (cs := #[.bool a0_0, .bool a0_1, .bool a0_2, .bool a0_3, .int .u32 a0_4, .int .u32 a0_5, .int .i64 a0_6]) (t := 24) ?hr ?_; (case hd => rfl); (case hg => rfl); (case hr => first | (go_simp; done) | (go_simp; rfl)); intro gb117 hg w8 hbox hb; have n0_ := Aside0.mk (below_step (by repeat (first | (with_reducible first | exact HB.out | apply below_alloc | apply pw_below_drewN | apply below_drew1) | exact HB.out)) hb); have n1_ := Aside0.mk (hbox); have n2_ := Aside0.mk ((by rw [hg]; exact (below_size (by repeat (first | (with_reducible first | exact HB.out | apply below_alloc | apply pw_below_drewN | apply below_drew1) | exact HB.out))) : w.heap.size ≤ gb117)); have n3_ := Aside0.mk ((by rw [hg]; exact (below_size (by repeat (first | (with_reducible first | exact HB.out | apply below_alloc | apply pw_below_drewN | apply below_drew1) | exact HB.out))) : w.heap.size ≤ gb117)); clear HB; have HB := n0_; have BK117 := n1_; have GW117 := n2_; have GE117 := n3_; clear n0_ n1_ n2_ n3_; clear hb hbox hg; have hcz9_0 : w8.cell? ⟨gb117, 0, none⟩ = some (.bool a0_0) := (blk_cell BK117.out 0).trans rfl; have hcz9_1 : w8.cell? ⟨gb117, 1, none⟩ = some (.bool a0_1) := (blk_cell BK117.out 1).trans rfl; have hcz9_2 : w8.cell? ⟨gb117, 2, none⟩ = some (.bool a0_2) := (blk_cell BK117.out 2).trans rfl; have hcz9_3 : w8.cell? ⟨gb117, 3, none⟩ = some (.bool a0_3) := (blk_cell BK117.out 3).trans rfl; have hcz9_4 : w8.cell? ⟨gb117, 4, none⟩ = some (.int .u32 a0_4) := (blk_cell BK117.out 4).trans rfl; have hcz9_5 : w8.cell? ⟨gb117, 5, none⟩ = some (.int .u32 a0_5) := (blk_cell BK117.out 5).trans rfl; have hcz9_6 : w8.cell? ⟨gb117, 6, none⟩ = some (.int .i64 a0_6) := (blk_cell BK117.out 6).trans rfl; have hfz9_0 := blk_frozen BK117.out 0; have hfz9_1 := blk_frozen BK117.out 1; have hfz9_2 := blk_frozen BK117.out 2; have hfz9_3 := blk_frozen BK117.out 3; have hfz9_4 := blk_frozen BK117.out 4; have hfz9_5 := blk_frozen BK117.out 5; have hfz9_6 := blk_frozen BK117.out 6))
      go_ret
      exact ⟨by first | rfl | (simp [errW_none, errW_some] <;> rfl) | (simp [*, errW_none, errW_some] <;> rfl), by repeat (first | (with_reducible first | exact HB.out | apply below_alloc | apply pw_below_drewN | apply below_drew1 | refine below_set ?_ GE117.out) | exact HB.out)⟩
def marlineref08_Most.f (a0_0 : Bool) (a0_1 : Bool) (a0_2 : Bool) (a0_3 : Bool) (a0_4 : Int) (a0_5 : Int) (a0_6 : Int) : Option (Int) := if a0_1 = true then (some (wrap64 (a0_6 + 8))) else (some (wrap64 (a0_6 + 6)))
set_option maxHeartbeats 8000000 in
set_option maxRecDepth 100000 in
theorem marlineref08_Most.calls (a0_0 : Bool) (a0_1 : Bool) (a0_2 : Bool) (a0_3 : Bool) (a0_4 : Int) (a0_5 : Int) (a0_6 : Int) (r : Int) (w : World) (h : marlineref08_Most.f a0_0 a0_1 a0_2 a0_3 a0_4 a0_5 a0_6 = some r) :
    Calls Tryd.prog 21 #[.agg #[.bool a0_0, .bool a0_1, .bool a0_2, .bool a0_3, .int .u32 a0_4, .int .u32 a0_5, .int .i64 a0_6]] w fun e w' => e = .returned (.int .i64 r) ∧ Below w.heap.size w w' := by
  have hu24 := Tryd.underlying24
  have HB := Aside0.mk (Below.refl w.heap.size w)
  have H : (if a0_1 = true then (some (wrap64 (a0_6 + 8))) else (some (wrap64 (a0_6 + 6)))) = some r := h
  clear h
  by_cases c2 : a0_1 = true
  · subst c2
    have H1 : (some (wrap64 (a0_6 + 8))) = some r := by rw [if_pos rfl] at H; exact H
    clear H
    have H := H1
    clear H1
    obtain rfl := Option.some.inj H
    go_enter Tryd.func21, Tryd.ntmps21
    go_wp2_with (first | ((with_reducible refine gate_dst (N := 1) rfl ?_); refine box_event ?hg (N := 1) ?hd (cs := #[.bool a0_0, .bool true, .bool a0_2, .bool a0_3, .int .u32 a0_4, .int .u32 a0_5, .int .i64 a0_6]) (t := 24) ?hr ?_; (case hd => rfl); (case hg => rfl); (case hr => first | (go_simp; done) | (go_simp; rfl)); intro gb118 hg w3 hbox hb; have n0_ := Aside0.mk (below_step (by repeat (first | (with_reducible first | exact HB.out | apply below_alloc | apply pw_below_drewN | apply below_drew1) | exact HB.out)) hb); have n1_ := Aside0.mk (hbox); have n2_ := Aside0.mk ((by rw [hg]; exact (below_size (by repeat (first | (with_reducible first | exact HB.out | apply below_alloc | apply pw_below_drewN | apply below_drew1) | exact HB.out))) : w.heap.size ≤ gb118)); have n3_ := Aside0.mk ((by rw [hg]; exact (below_size (by repeat (first | (with_reducible first | exact HB.out | apply below_alloc | apply pw_below_drewN | apply below_drew1) | exact HB.out))) : w.heap.size ≤ gb118)); clear HB; have HB := n0_; have BK118 := n1_; have GW118 := n2_; have GE118 := n3_; clear n0_ n1_ n2_ n3_; clear hb hbox hg; have hcz4_0 : w3.cell? ⟨gb118, 0, none⟩ = some (.bool a0_0) := (blk_cell BK118.out 0).trans rfl; have hcz4_1 : w3.cell? ⟨gb118, 1, none⟩ = some (.bool true) := (blk_cell BK118.out 1).trans rfl; have hcz4_2 : w3.cell? ⟨gb118, 2, none⟩ = some (.bool a0_2) := (blk_cell BK118.out 2).trans rfl; have hcz4_3 : w3.cell? ⟨gb118, 3, none⟩ = some (.bool a0_3) := (blk_cell BK118.out 3).trans rfl; have hcz4_4 : w3.cell? ⟨gb118, 4, none⟩ = some (.int .u32 a0_4) := (blk_cell BK118.out 4).trans rfl; have hcz4_5 : w3.cell? ⟨gb118, 5, none⟩ = some (.int .u32 a0_5) := (blk_cell BK118.out 5).trans rfl; have hcz4_6 : w3.cell? ⟨gb118, 6, none⟩ = some (.int .i64 a0_6) := (blk_cell BK118.out 6).trans rfl; have hfz4_0 := blk_frozen BK118.out 0; have hfz4_1 := blk_frozen BK118.out 1; have hfz4_2 := blk_frozen BK118.out 2; have hfz4_3 := blk_frozen BK118.out 3; have hfz4_4 := blk_frozen BK118.out 4; have hfz4_5 := blk_frozen BK118.out 5; have hfz4_6 := blk_frozen BK118.out 6))
    go_ret
    exact ⟨by first | rfl | (simp [errW_none, errW_some] <;> rfl) | (simp [*, errW_none, errW_some] <;> rfl), by repeat (first | (with_reducible first | exact HB.out | apply below_alloc | apply pw_below_drewN | apply below_drew1 | refine below_set ?_ GE118.out) | exact HB.out)⟩
  · replace c2 := Bool.eq_false_iff.mpr c2
    subst c2
    have H1 : (some (wrap64 (a0_6 + 6))) = some r := by rw [if_neg (show ¬ (false = true) by decide)] at H; exact H
    clear H
    have H := H1
    clear H1
    obtain rfl := Option.some.inj H
    go_enter Tryd.func21, Tryd.ntmps21
    go_wp2_with (first | ((with_reducible refine gate_dst (N := 1) rfl ?_); refine box_event ?hg (N := 1) ?hd (cs := #[.bool a0_0, .bool false, .bool a0_2, .bool a0_3, .int .u32 a0_4, .int .u32 a0_5, .int .i64 a0_6]) (t := 24) ?hr ?_; (case hd => rfl); (case hg => rfl); (case hr => first | (go_simp; done) | (go_simp; rfl)); intro gb118 hg w5 hbox hb; have n0_ := Aside0.mk (below_step (by repeat (first | (with_reducible first | exact HB.out | apply below_alloc | apply pw_below_drewN | apply below_drew1) | exact HB.out)) hb); have n1_ := Aside0.mk (hbox); have n2_ := Aside0.mk ((by rw [hg]; exact (below_size (by repeat (first | (with_reducible first | exact HB.out | apply below_alloc | apply pw_below_drewN | apply below_drew1) | exact HB.out))) : w.heap.size ≤ gb118)); have n3_ := Aside0.mk ((by rw [hg]; exact (below_size (by repeat (first | (with_reducible first | exact HB.out | apply below_alloc | apply pw_below_drewN | apply below_drew1) | exact HB.out))) : w.heap.size ≤ gb118)); clear HB; have HB := n0_; have BK118 := n1_; have GW118 := n2_; have GE118 := n3_; clear n0_ n1_ n2_ n3_; clear hb hbox hg; have hcz6_0 : w5.cell? ⟨gb118, 0, none⟩ = some (.bool a0_0) := (blk_cell BK118.out 0).trans rfl; have hcz6_1 : w5.cell? ⟨gb118, 1, none⟩ = some (.bool false) := (blk_cell BK118.out 1).trans rfl; have hcz6_2 : w5.cell? ⟨gb118, 2, none⟩ = some (.bool a0_2) := (blk_cell BK118.out 2).trans rfl; have hcz6_3 : w5.cell? ⟨gb118, 3, none⟩ = some (.bool a0_3) := (blk_cell BK118.out 3).trans rfl; have hcz6_4 : w5.cell? ⟨gb118, 4, none⟩ = some (.int .u32 a0_4) := (blk_cell BK118.out 4).trans rfl; have hcz6_5 : w5.cell? ⟨gb118, 5, none⟩ = some (.int .u32 a0_5) := (blk_cell BK118.out 5).trans rfl; have hcz6_6 : w5.cell? ⟨gb118, 6, none⟩ = some (.int .i64 a0_6) := (blk_cell BK118.out 6).trans rfl; have hfz6_0 := blk_frozen BK118.out 0; have hfz6_1 := blk_frozen BK118.out 1; have hfz6_2 := blk_frozen BK118.out 2; have hfz6_3 := blk_frozen BK118.out 3; have hfz6_4 := blk_frozen BK118.out 4; have hfz6_5 := blk_frozen BK118.out 5; have hfz6_6 := blk_frozen BK118.out 6))
    go_ret
    exact ⟨by first | rfl | (simp [errW_none, errW_some] <;> rfl) | (simp [*, errW_none, errW_some] <;> rfl), by repeat (first | (with_reducible first | exact HB.out | apply below_alloc | apply pw_below_drewN | apply below_drew1 | refine below_set ?_ GE118.out) | exact HB.out)⟩
end Go.Proofs.YtggpejjfgphihaaDoor.C
end

section
namespace Go.Proofs.YtggpejjfgphihaaDoor.E
open Go.Proofs.YtggpejjfgphihaaDoor.Given Go.Proofs.YtggpejjfgphihaaDoor.D Go.Proofs.YtggpejjfgphihaaDoor.H Go.RowKit Go.Proofs.YtggpejjfgphihaaDoorW.PrintWords Go.Proofs.YtggpejjfgphihaaDoorW.PrintLast Go.Proofs.YtggpejjfgphihaaDoorW.PrintMore
attribute [local go_sem] max2_int min2_int max_two min_two max_three min_three max_four min_four
open Go.Proofs.YtggpejjfgphihaaDoor.C (config_Most.f config_Most.calls marlineref08_Check.f marlineref08_Check.calls marlineref08_Most.f marlineref08_Most.calls)
set_option linter.unusedVariables false
set_option linter.unusedSimpArgs false
def errW : Option Int → Value
  | none => .nilIface
  | some c => .iface 0 (.int .i64 c)
theorem errW_none : errW none = .nilIface := rfl
theorem errW_some (c : Int) : errW (some c) = .iface 0 (.int .i64 c) := rfl
theorem info5 : (Tryd.prog.info? 5).map (fun i => (i.zero, i.size, i.bytes)) = some (some (.int .u8 0), 1, 1) := by kernel_rfl
end Go.Proofs.YtggpejjfgphihaaDoor.E
end
