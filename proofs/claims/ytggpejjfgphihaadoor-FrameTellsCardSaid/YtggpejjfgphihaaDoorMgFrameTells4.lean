/- Laid together by wip/prune.py: what the claim needs of the session's texts and of the print program's words. -/
import Derived.Test.YtggpejjfgphihaaDoorMgFrameTells3
import Derived.Test.YtggpejjfgphihaaDoorProg
import Derived.Below
import Derived.Deep.Draws
import Derived.Deep.AppendLies
import Derived.Maps.AppendAt
import Derived.OwnWalk
import Derived.Laws.BytesArg
import Derived.Laws.MakeOwn
import Derived.Laws.OwnMore
import Derived.Deep.OwnRows
import Derived.Tactics
import Derived.Lib.ConvBytes
import Derived.Laws.Slices
import Derived.WalkKit
import Derived.KernelRfl
import Derived.RowKit3
import Derived.Deep.LoopGhost
import Derived.Deep.QuietTactic
import Derived.BigQuiet
import Derived.WideLaws
import Derived.Deep.DeepCutAuto
import Derived.Deep.CutBlock
import Derived.Deep.RegionHeld3
import Derived.Laws.Rows
import Derived.Lib.AppendStr
import Derived.ArgAppend
import Derived.Laws.IdiomCopy
import Derived.OrdersHeld
import Derived.Laws.BitsLemmas
import Derived.RowKit
import Derived.RegionTactic
section
namespace Go.Proofs.YtggpejjfgphihaaDoor.H
open Go.Proofs.YtggpejjfgphihaaDoor.Given Go.Proofs.YtggpejjfgphihaaDoor.D Go.Proofs.YtggpejjfgphihaaDoor.Z Go.RowKit Go.Proofs.YtggpejjfgphihaaDoorW.PrintWords Go.Proofs.YtggpejjfgphihaaDoorW.PrintLast Go.Proofs.YtggpejjfgphihaaDoorW.PrintMore
attribute [local go_sem] max2_int min2_int max_two min_two max_three min_three max_four min_four
open Go.Proofs.YtggpejjfgphihaaDoor.C (marlineref03_Has.f marlineref03_Has.calls)
set_option linter.unusedVariables false
set_option linter.unusedSimpArgs false
def marlineref11_Wire.f (k : Nat) (a0_0 : Bool) (a0_1 : Bool) (a0_2 : Bool) (a0_3 : Bool) (a0_4 : Int) (a0_5 : Int) (a0_6 : Int) (l1 : List Int) : Option (List Int) := if a0_0 = true then ((some (([0, 1, 1, 1, 1, 1, 1, 0] : List Int) : List Int)).bind fun y363 => ((some (([] : List Int) : List Int)).bind fun y366 => (if y366.length + y363.length < 140737488355328 then ((some (y366 ++ y363 : List Int)).bind fun y369 => ((marlineref01_Of.f k l1).bind fun t372 => ((marlineref06_Insert.f k t372).bind fun t375 => (if y369.length + t375.length < 140737488355328 then ((some (y369 ++ t375 : List Int)).bind fun y378 => (if y378.length + y363.length < 140737488355328 then (some (y378 ++ y363)) else (none))) else (none))))) else (none)))) else ((some (([126] : List Int) : List Int)).bind fun y384 => ((marlineref04_Stuff.f k a0_4 l1).bind fun t387 => (if y384.length + t387.length < 140737488355328 then ((some (y384 ++ t387 : List Int)).bind fun y390 => (if y390.length < 140737488355328 then (some (y390 ++ [126])) else (none))) else (none))))
set_option maxHeartbeats 8000000 in
set_option maxRecDepth 100000 in
theorem marlineref11_Wire.calls (k : Nat) (a0_0 : Bool) (a0_1 : Bool) (a0_2 : Bool) (a0_3 : Bool) (a0_4 : Int) (a0_5 : Int) (a0_6 : Int) (A1 : Option Addr) (c1 : Nat) (l1 : List Int) (r : List Int) (w : World) (hr1 : Kd.C (Kd.int .u8) w A1 l1.length l1) (hc1 : l1.length ≤ c1) (h : marlineref11_Wire.f k a0_0 a0_1 a0_2 a0_3 a0_4 a0_5 a0_6 l1 = some r) :
    Calls Tryd.prog 52 #[.agg #[.bool a0_0, .bool a0_1, .bool a0_2, .bool a0_3, .int .u32 a0_4, .int .u32 a0_5, .int .i64 a0_6], .slice A1 l1.length c1] w fun e w' => ∃ v0_ : Value, e = .returned (v0_) ∧ Kd.R (Kd.int .u8) 5 w' w.heap.size (fun _ => True) v0_ r ∧ Below w.heap.size w w' := by
  have hu24 := Tryd.underlying24
  have HR1 := Aside0.mk hr1
  have HC1 := Aside0.mk hc1
  clear hr1 hc1
  have HB := Aside0.mk (Below.refl w.heap.size w)
  have H : (if a0_0 = true then ((some (([0, 1, 1, 1, 1, 1, 1, 0] : List Int) : List Int)).bind fun y363 => ((some (([] : List Int) : List Int)).bind fun y366 => (if y366.length + y363.length < 140737488355328 then ((some (y366 ++ y363 : List Int)).bind fun y369 => ((marlineref01_Of.f k l1).bind fun t372 => ((marlineref06_Insert.f k t372).bind fun t375 => (if y369.length + t375.length < 140737488355328 then ((some (y369 ++ t375 : List Int)).bind fun y378 => (if y378.length + y363.length < 140737488355328 then (some (y378 ++ y363)) else (none))) else (none))))) else (none)))) else ((some (([126] : List Int) : List Int)).bind fun y384 => ((marlineref04_Stuff.f k a0_4 l1).bind fun t387 => (if y384.length + t387.length < 140737488355328 then ((some (y384 ++ t387 : List Int)).bind fun y390 => (if y390.length < 140737488355328 then (some (y390 ++ [126])) else (none))) else (none))))) = some r := h
  clear h
  by_cases c3 : a0_0 = true
  · subst c3
    have H1 : ((some (([0, 1, 1, 1, 1, 1, 1, 0] : List Int) : List Int)).bind fun y363 => ((some (([] : List Int) : List Int)).bind fun y366 => (if y366.length + y363.length < 140737488355328 then ((some (y366 ++ y363 : List Int)).bind fun y369 => ((marlineref01_Of.f k l1).bind fun t372 => ((marlineref06_Insert.f k t372).bind fun t375 => (if y369.length + t375.length < 140737488355328 then ((some (y369 ++ t375 : List Int)).bind fun y378 => (if y378.length + y363.length < 140737488355328 then (some (y378 ++ y363)) else (none))) else (none))))) else (none)))) = some r := by rw [if_pos rfl] at H; exact H
    clear H
    have H := H1
    clear H1
    obtain ⟨y363, hy363⟩ : ∃ y_ : List Int, y_ = (([0, 1, 1, 1, 1, 1, 1, 0] : List Int)) := ⟨_, rfl⟩
    replace H : ((some (([] : List Int) : List Int)).bind fun y366 => (if y366.length + y363.length < 140737488355328 then ((some (y366 ++ y363 : List Int)).bind fun y369 => ((marlineref01_Of.f k l1).bind fun t372 => ((marlineref06_Insert.f k t372).bind fun t375 => (if y369.length + t375.length < 140737488355328 then ((some (y369 ++ t375 : List Int)).bind fun y378 => (if y378.length + y363.length < 140737488355328 then (some (y378 ++ y363)) else (none))) else (none))))) else (none))) = some r := by first | (rw [hy363]; with_reducible exact H) | (have H2_ := (Option.bind_some _ _).symm.trans H; rw [hy363]; with_reducible exact H2_) | (have H2_ := (Option.bind_some _ _).symm.trans H; with_reducible exact H2_) | with_reducible exact H | (rw [hy363]; exact H) | exact H
    have Ny363 := Aside0.mk hy363
    clear hy363
    obtain ⟨y366, hy366⟩ : ∃ y_ : List Int, y_ = (([] : List Int)) := ⟨_, rfl⟩
    replace H : (if y366.length + y363.length < 140737488355328 then ((some (y366 ++ y363 : List Int)).bind fun y369 => ((marlineref01_Of.f k l1).bind fun t372 => ((marlineref06_Insert.f k t372).bind fun t375 => (if y369.length + t375.length < 140737488355328 then ((some (y369 ++ t375 : List Int)).bind fun y378 => (if y378.length + y363.length < 140737488355328 then (some (y378 ++ y363)) else (none))) else (none))))) else (none)) = some r := by first | (rw [hy366]; with_reducible exact H) | (have H2_ := (Option.bind_some _ _).symm.trans H; rw [hy366]; with_reducible exact H2_) | (have H2_ := (Option.bind_some _ _).symm.trans H; with_reducible exact H2_) | with_reducible exact H | (rw [hy366]; exact H) | exact H
    have Ny366 := Aside0.mk hy366
    clear hy366
    by_cases c4 : y366.length + y363.length < 140737488355328
    · rw [if_pos c4] at H
      have LMc4 := Aside0.mk c4
      clear c4
      obtain ⟨y369, hy369⟩ : ∃ y_ : List Int, y_ = (y366 ++ y363) := ⟨_, rfl⟩
      replace H : ((marlineref01_Of.f k l1).bind fun t372 => ((marlineref06_Insert.f k t372).bind fun t375 => (if y369.length + t375.length < 140737488355328 then ((some (y369 ++ t375 : List Int)).bind fun y378 => (if y378.length + y363.length < 140737488355328 then (some (y378 ++ y363)) else (none))) else (none)))) = some r := by first | (rw [hy369]; with_reducible exact H) | (have H2_ := (Option.bind_some _ _).symm.trans H; rw [hy369]; with_reducible exact H2_) | (have H2_ := (Option.bind_some _ _).symm.trans H; with_reducible exact H2_) | with_reducible exact H | (rw [hy369]; exact H) | exact H
      have Ny369 := Aside0.mk hy369
      clear hy369
      replace H := Option.bind_eq_some_iff.mp H
      obtain ⟨t372, A50, H⟩ := H
      replace H : ((marlineref06_Insert.f k t372).bind fun t375 => (if y369.length + t375.length < 140737488355328 then ((some (y369 ++ t375 : List Int)).bind fun y378 => (if y378.length + y363.length < 140737488355328 then (some (y378 ++ y363)) else (none))) else (none))) = some r := H
      have A5 := Aside0.mk A50
      clear A50
      replace H := Option.bind_eq_some_iff.mp H
      obtain ⟨t375, A60, H⟩ := H
      replace H : (if y369.length + t375.length < 140737488355328 then ((some (y369 ++ t375 : List Int)).bind fun y378 => (if y378.length + y363.length < 140737488355328 then (some (y378 ++ y363)) else (none))) else (none)) = some r := H
      have A6 := Aside0.mk A60
      clear A60
      by_cases c7 : y369.length + t375.length < 140737488355328
      · rw [if_pos c7] at H
        have LMc7 := Aside0.mk c7
        clear c7
        obtain ⟨y378, hy378⟩ : ∃ y_ : List Int, y_ = (y369 ++ t375) := ⟨_, rfl⟩
        replace H : (if y378.length + y363.length < 140737488355328 then (some (y378 ++ y363)) else (none)) = some r := by first | (rw [hy378]; with_reducible exact H) | (have H2_ := (Option.bind_some _ _).symm.trans H; rw [hy378]; with_reducible exact H2_) | (have H2_ := (Option.bind_some _ _).symm.trans H; with_reducible exact H2_) | with_reducible exact H | (rw [hy378]; exact H) | exact H
        have Ny378 := Aside0.mk hy378
        clear hy378
        by_cases c8 : y378.length + y363.length < 140737488355328
        · rw [if_pos c8] at H
          have LMc8 := Aside0.mk c8
          clear c8
          obtain ⟨y381, hy381⟩ : ∃ y_ : List Int, y_ = (y378 ++ y363) := ⟨_, rfl⟩
          replace H : (some y381) = some r := by first | (rw [hy381]; with_reducible exact H) | (have H2_ := (Option.bind_some _ _).symm.trans H; rw [hy381]; with_reducible exact H2_) | (have H2_ := (Option.bind_some _ _).symm.trans H; with_reducible exact H2_) | with_reducible exact H | (rw [hy381]; exact H) | exact H
          have Ny381 := Aside0.mk hy381
          clear hy381
          obtain rfl := Option.some.inj H
          go_enter Tryd.func52, Tryd.ntmps52
          go_wp2_with (first | ((with_reducible refine gate_dst (N := 2) rfl ?_); refine box_event ?hg (N := 2) ?hd (cs := #[.bool true, .bool a0_1, .bool a0_2, .bool a0_3, .int .u32 a0_4, .int .u32 a0_5, .int .i64 a0_6]) (t := 24) ?hr ?_; (case hd => rfl); (case hg => rfl); (case hr => first | (go_simp; done) | (go_simp; rfl)); intro gb362 hg w9 hbox hb; have n0_ := Aside0.mk (below_step (by repeat (first | (with_reducible first | exact HB.out | apply below_alloc | apply pw_below_drewN | apply below_drew1) | exact HB.out)) hb); have n1_ := Aside0.mk (hbox); have n2_ := Aside0.mk ((by rw [hg]; exact (below_size (by repeat (first | (with_reducible first | exact HB.out | apply below_alloc | apply pw_below_drewN | apply below_drew1) | exact HB.out))) : w.heap.size ≤ gb362)); have n3_ := Aside0.mk ((by rw [hg]; exact (below_size (by repeat (first | (with_reducible first | exact HB.out | apply below_alloc | apply pw_below_drewN | apply below_drew1) | exact HB.out))) : w.heap.size ≤ gb362)); clear HB; have HB := n0_; have BK362 := n1_; have GW362 := n2_; have GE362 := n3_; clear n0_ n1_ n2_ n3_; clear hb hbox hg; have hcz10_0 : w9.cell? ⟨gb362, 0, none⟩ = some (.bool true) := (blk_cell BK362.out 0).trans rfl; have hcz10_1 : w9.cell? ⟨gb362, 1, none⟩ = some (.bool a0_1) := (blk_cell BK362.out 1).trans rfl; have hcz10_2 : w9.cell? ⟨gb362, 2, none⟩ = some (.bool a0_2) := (blk_cell BK362.out 2).trans rfl; have hcz10_3 : w9.cell? ⟨gb362, 3, none⟩ = some (.bool a0_3) := (blk_cell BK362.out 3).trans rfl; have hcz10_4 : w9.cell? ⟨gb362, 4, none⟩ = some (.int .u32 a0_4) := (blk_cell BK362.out 4).trans rfl; have hcz10_5 : w9.cell? ⟨gb362, 5, none⟩ = some (.int .u32 a0_5) := (blk_cell BK362.out 5).trans rfl; have hcz10_6 : w9.cell? ⟨gb362, 6, none⟩ = some (.int .i64 a0_6) := (blk_cell BK362.out 6).trans rfl; have hfz10_0 := blk_frozen BK362.out 0; have hfz10_1 := blk_frozen BK362.out 1; have hfz10_2 := blk_frozen BK362.out 2; have hfz10_3 := blk_frozen BK362.out 3; have hfz10_4 := blk_frozen BK362.out 4; have hfz10_5 := blk_frozen BK362.out 5; have hfz10_6 := blk_frozen BK362.out 6) | ((with_reducible refine gate_dst (N := 20) rfl ?_); refine Kd.R_lit (Kd.int .u8) _ 5 ?hg (N := 20) ?hd (xs := ([0, 1, 1, 1, 1, 1, 1, 0] : List Int)) (inner := [.int .u8 0, .int .u8 1, .int .u8 1, .int .u8 1, .int .u8 1, .int .u8 1, .int .u8 1, .int .u8 0]) (ok := fun _ => True) (okp := fun _ => True) ?hr ?hp (fun _ hk => hk) trivial (Below.refl _ _) (Nat.le_refl _) (by simp) ?_; (case hd => rfl); (case hg => rfl); (case hr => first | (go_simp; done) | (go_simp; rfl)); (case hp => exact (Reps.one (show Kd.M (Kd.int .u8) _ _ _ 0 [.int .u8 0] from rfl) (Reps.one (show Kd.M (Kd.int .u8) _ _ _ 1 [.int .u8 1] from rfl) (Reps.one (show Kd.M (Kd.int .u8) _ _ _ 1 [.int .u8 1] from rfl) (Reps.one (show Kd.M (Kd.int .u8) _ _ _ 1 [.int .u8 1] from rfl) (Reps.one (show Kd.M (Kd.int .u8) _ _ _ 1 [.int .u8 1] from rfl) (Reps.one (show Kd.M (Kd.int .u8) _ _ _ 1 [.int .u8 1] from rfl) (Reps.one (show Kd.M (Kd.int .u8) _ _ _ 1 [.int .u8 1] from rfl) (Reps.one (show Kd.M (Kd.int .u8) _ _ _ 0 [.int .u8 0] from rfl) (Reps.none _ _)))))))))); intro v364 w11 ho12 hb hg_ hnew_; clear hg_ hnew_; (first | rw [← Ny363.out] at ho12 | (simp only [Int.reduceToNat] at ho12; rw [← Ny363.out] at ho12)); have n0_ := Aside0.mk (Kd.R_lower ho12 (below_size (by repeat (first | (with_reducible first | exact HB.out | apply below_alloc | apply pw_below_drewN | apply below_drew1 | refine below_set ?_ GE362.out) | exact HB.out)))); have n1_ := Aside0.mk (blk_below (g := gb362) (o := .cells #[.bool true, .bool a0_1, .bool a0_2, .bool a0_3, .int .u32 a0_4, .int .u32 a0_5, .int .i64 a0_6] 24 (0, 0)) (by (with_reducible repeat (first | refine blk_drewN ?_ _ | refine blk_drew ?_ | refine blk_alloc ?_ _)); exact BK362.out) hb); have n2_ := Aside0.mk (below_step (by repeat (first | (with_reducible first | exact HB.out | apply below_alloc | apply pw_below_drewN | apply below_drew1 | refine below_set ?_ GE362.out) | exact HB.out)) hb); clear BK362; clear HB; have HO365 := n0_; have BK362 := n1_; have HB := n2_; clear n0_ n1_ n2_; clear hb ho12) | ((with_reducible refine gate_dst (N := 21) rfl ?_); refine Kd.R_lit (Kd.int .u8) _ 5 ?hg (N := 21) ?hd (xs := ([] : List Int)) (inner := []) (ok := fun _ => True) (okp := fun _ => True) ?hr ?hp (fun _ hk => hk) trivial (Below.refl _ _) (Nat.le_refl _) (by simp) ?_; (case hd => rfl); (case hg => rfl); (case hr => first | (go_simp; done) | (go_simp; rfl)); (case hp => exact (Reps.none _ _)); intro v367 w13 ho14 hb hg_ hnew_; clear hg_ hnew_; (first | rw [← Ny366.out] at ho14 | (simp only [Int.reduceToNat] at ho14; rw [← Ny366.out] at ho14)); have n0_ := Aside0.mk (Kd.R_elder' (by (with_reducible repeat (first | apply Kd.R_alloc | apply Kd.R_drewN | apply Kd.R_drew)); exact HO365.out) (Kd.R_base ho14) hb); have n1_ := Aside0.mk (Kd.R_lower (Kd.R_new' ho14 (Kd.R_lt (by (with_reducible repeat (first | apply Kd.R_alloc | apply Kd.R_drewN | apply Kd.R_drew)); exact HO365.out))) (below_size (by repeat (first | (with_reducible first | exact HB.out | apply below_alloc | apply pw_below_drewN | apply below_drew1 | refine below_set ?_ GE362.out) | exact HB.out)))); have n2_ := Aside0.mk (blk_below (g := gb362) (o := .cells #[.bool true, .bool a0_1, .bool a0_2, .bool a0_3, .int .u32 a0_4, .int .u32 a0_5, .int .i64 a0_6] 24 (0, 0)) (by (with_reducible repeat (first | refine blk_drewN ?_ _ | refine blk_drew ?_ | refine blk_alloc ?_ _)); exact BK362.out) hb); have n3_ := Aside0.mk (below_step (by repeat (first | (with_reducible first | exact HB.out | apply below_alloc | apply pw_below_drewN | apply below_drew1 | refine below_set ?_ GE362.out) | exact HB.out)) hb); clear HO365; clear BK362; clear HB; have HO365 := n0_; have HO368 := n1_; have BK362 := n2_; have HB := n3_; clear n0_ n1_ n2_ n3_; clear hb ho14; obtain ⟨Ao16, co16, eo16⟩ := Kd.R_slice HO365.out; subst eo16) | ((with_reducible refine gate_builtin (b := .append) (xs := #[.tmp 21, .tmp 22]) rfl ?_); at_builtin; refine Kd.R_append_rows (Kd.int .u8) (w0 := w) w.heap.size rfl (.tmp 21) (.tmp 22) 35 5 (.int .u8 0) 1 rfl Tryd.underlying35 info5 rfl (by decide) (by omega) v367 y366 y363 _ _ _ (fun k_ => some k_ ≠ (.slice Ao16 y363.length co16 : Value).ownBlock) (fun _ => False) rfl rfl ?aO ?aR (fun _ _ h => h) (fun _ h => h.elim) ?aF ?aB ?aS ?aL ?_; (case aR => repeat (first | exact (Kd.R_reads' HO365.out).2.2 | (with_reducible refine Kd.C_alloc ?_ _) | (with_reducible refine Kd.C_drewN ?_ _) | (with_reducible refine Kd.C_drew ?_))); (case aB => exact (by repeat (first | (with_reducible first | exact HB.out | apply below_alloc | apply pw_below_drewN | apply below_drew1 | refine below_set ?_ GE362.out) | exact HB.out))); (case aF => exact (fun k_ hk => Kd.fresh' (Kd.R_lt (by (with_reducible repeat (first | apply Kd.R_alloc | apply Kd.R_drewN | apply Kd.R_drew)); exact HO365.out)) k_ hk)); (case aO => exact (by (with_reducible repeat (first | apply Kd.R_alloc | apply Kd.R_drewN | apply Kd.R_drew)); exact Kd.R_mono HO368.out (fun _ hk => hk.2))); (case aS => exact (below_size (by repeat (first | (with_reducible first | exact HB.out | apply below_alloc | apply pw_below_drewN | apply below_drew1 | refine below_set ?_ GE362.out) | exact HB.out)))); (case aL => have := LMc4.out; omega); intro v370 w15 ho hb hg hat; rw [← Ny369.out] at ho; have n0_ := Aside0.mk (blk_grown (g := gb362) (o := .cells #[.bool true, .bool a0_1, .bool a0_2, .bool a0_3, .int .u32 a0_4, .int .u32 a0_5, .int .i64 a0_6] 24 (0, 0)) (by (with_reducible repeat (first | refine blk_drewN ?_ _ | refine blk_drew ?_ | refine blk_alloc ?_ _)); exact BK362.out) hg (Kd.R_ne HO368.out BK362.out (by decide))); have n1_ := Aside0.mk (Kd.R_after (ok := (fun _ => True)) (by (with_reducible repeat (first | apply Kd.R_alloc | apply Kd.R_drewN | apply Kd.R_drew)); exact HO365.out) hg hat); have n2_ := Aside0.mk (hb); have n3_ := Aside0.mk (ho); clear BK362; clear HO365; clear HB; clear HO368; have BK362 := n0_; have HO365 := n1_; have HB := n2_; have HO371 := n3_; clear n0_ n1_ n2_ n3_; clear ho hb hg hat) | ((with_reducible refine gate_callee (f := 76) rfl ?_); refine goesL_ (some 26) rfl rfl Tryd.func76 (by kernel_rfl) rfl #[.slice A1 l1.length c1] rfl (by (try simp only [List.map_toArray, List.map_cons, List.map_nil]); first | done | rfl | (simp only [List.length_drop, List.length_take]; rfl)) ?_; (with_reducible refine (marlineref01_Of.calls k _ _ l1 t372 _ ?side1 ?side2 A5.out).mono ?_); (case side1 => repeat (first | exact (Kd.C_below HR1.out HB.out) | (with_reducible refine Kd.C_alloc ?_ _) | (with_reducible refine Kd.C_drewN ?_ _) | (with_reducible refine Kd.C_drew ?_))); (case side2 => exact HC1.out); rintro e w17 ⟨v373, rfl, ho0, hb⟩; refine ⟨_, rfl, ?_⟩; have n0_ := Aside0.mk (Kd.R_elder' (by (with_reducible repeat (first | apply Kd.R_alloc | apply Kd.R_drewN | apply Kd.R_drew)); exact HO365.out) (Kd.R_base ho0) hb); have n1_ := Aside0.mk (Kd.R_elder' (by (with_reducible repeat (first | apply Kd.R_alloc | apply Kd.R_drewN | apply Kd.R_drew)); exact HO371.out) (Kd.R_base ho0) hb); have n2_ := Aside0.mk (Kd.R_lower (Kd.R_new' (Kd.R_new' ho0 (Kd.R_lt (by (with_reducible repeat (first | apply Kd.R_alloc | apply Kd.R_drewN | apply Kd.R_drew)); exact HO365.out))) (Kd.R_lt (by (with_reducible repeat (first | apply Kd.R_alloc | apply Kd.R_drewN | apply Kd.R_drew)); exact HO371.out))) (below_size (by repeat (first | (with_reducible first | exact HB.out | apply below_alloc | apply pw_below_drewN | apply below_drew1 | refine below_set ?_ GE362.out) | exact HB.out)))); have n3_ := Aside0.mk (blk_below (g := gb362) (o := .cells #[.bool true, .bool a0_1, .bool a0_2, .bool a0_3, .int .u32 a0_4, .int .u32 a0_5, .int .i64 a0_6] 24 (0, 0)) (by (with_reducible repeat (first | refine blk_drewN ?_ _ | refine blk_drew ?_ | refine blk_alloc ?_ _)); exact BK362.out) hb); have n4_ := Aside0.mk (below_step (by repeat (first | (with_reducible first | exact HB.out | apply below_alloc | apply pw_below_drewN | apply below_drew1 | refine below_set ?_ GE362.out) | exact HB.out)) hb); clear HO365; clear HO371; clear BK362; clear HB; have HO365 := n0_; have HO371 := n1_; have HO374 := n2_; have BK362 := n3_; have HB := n4_; clear n0_ n1_ n2_ n3_ n4_; (try clear hb); (try clear hb2); (try clear hk); (try clear hi); (try clear ho0); obtain ⟨Ao18, co18, eo18⟩ := Kd.R_slice HO374.out; subst eo18) | ((with_reducible refine gate_callee (f := 75) rfl ?_); refine goesL_ (some 27) rfl rfl Tryd.func75 (by kernel_rfl) rfl #[.slice Ao18 t372.length co18] rfl (by (try simp only [List.map_toArray, List.map_cons, List.map_nil]); first | done | rfl | (simp only [List.length_drop, List.length_take]; rfl)) ?_; (with_reducible refine (marlineref06_Insert.calls k _ _ t372 t375 _ ?side1 ?side2 A6.out).mono ?_); (case side1 => repeat (first | exact (Kd.R_reads' HO374.out).2.2 | (with_reducible refine Kd.C_alloc ?_ _) | (with_reducible refine Kd.C_drewN ?_ _) | (with_reducible refine Kd.C_drew ?_))); (case side2 => exact (Kd.R_reads' HO374.out).2.1); rintro e w19 ⟨v376, rfl, ho0, hb⟩; refine ⟨_, rfl, ?_⟩; have n0_ := Aside0.mk (Kd.R_elder' (by (with_reducible repeat (first | apply Kd.R_alloc | apply Kd.R_drewN | apply Kd.R_drew)); exact HO365.out) (Kd.R_base ho0) hb); have n1_ := Aside0.mk (Kd.R_elder' (by (with_reducible repeat (first | apply Kd.R_alloc | apply Kd.R_drewN | apply Kd.R_drew)); exact HO371.out) (Kd.R_base ho0) hb); have n2_ := Aside0.mk (Kd.R_elder' (by (with_reducible repeat (first | apply Kd.R_alloc | apply Kd.R_drewN | apply Kd.R_drew)); exact HO374.out) (Kd.R_base ho0) hb); have n3_ := Aside0.mk (Kd.R_lower (Kd.R_new' (Kd.R_new' (Kd.R_new' ho0 (Kd.R_lt (by (with_reducible repeat (first | apply Kd.R_alloc | apply Kd.R_drewN | apply Kd.R_drew)); exact HO365.out))) (Kd.R_lt (by (with_reducible repeat (first | apply Kd.R_alloc | apply Kd.R_drewN | apply Kd.R_drew)); exact HO371.out))) (Kd.R_lt (by (with_reducible repeat (first | apply Kd.R_alloc | apply Kd.R_drewN | apply Kd.R_drew)); exact HO374.out))) (below_size (by repeat (first | (with_reducible first | exact HB.out | apply below_alloc | apply pw_below_drewN | apply below_drew1 | refine below_set ?_ GE362.out) | exact HB.out)))); have n4_ := Aside0.mk (blk_below (g := gb362) (o := .cells #[.bool true, .bool a0_1, .bool a0_2, .bool a0_3, .int .u32 a0_4, .int .u32 a0_5, .int .i64 a0_6] 24 (0, 0)) (by (with_reducible repeat (first | refine blk_drewN ?_ _ | refine blk_drew ?_ | refine blk_alloc ?_ _)); exact BK362.out) hb); have n5_ := Aside0.mk (below_step (by repeat (first | (with_reducible first | exact HB.out | apply below_alloc | apply pw_below_drewN | apply below_drew1 | refine below_set ?_ GE362.out) | exact HB.out)) hb); clear HO365; clear HO371; clear HO374; clear BK362; clear HB; have HO365 := n0_; have HO371 := n1_; have HO374 := n2_; have HO377 := n3_; have BK362 := n4_; have HB := n5_; clear n0_ n1_ n2_ n3_ n4_ n5_; (try clear hb); (try clear hb2); (try clear hk); (try clear hi); (try clear ho0); obtain ⟨Ao21, co21, eo21⟩ := Kd.R_slice HO377.out; subst eo21) | ((with_reducible refine gate_builtin (b := .append) (xs := #[.tmp 24, .tmp 27]) rfl ?_); at_builtin; refine Kd.R_append_rows (Kd.int .u8) (w0 := w) w.heap.size rfl (.tmp 24) (.tmp 27) 35 5 (.int .u8 0) 1 rfl Tryd.underlying35 info5 rfl (by decide) (by omega) v370 y369 t375 _ _ _ (fun k_ => some k_ ≠ (.slice Ao16 y363.length co16 : Value).ownBlock ∧ some k_ ≠ (.slice Ao18 t372.length co18 : Value).ownBlock ∧ some k_ ≠ (.slice Ao21 t375.length co21 : Value).ownBlock) (fun _ => False) rfl rfl ?aO ?aR (fun _ _ h => h) (fun _ h => h.elim) ?aF ?aB ?aS ?aL ?_; (case aR => repeat (first | exact (Kd.R_reads' HO377.out).2.2 | (with_reducible refine Kd.C_alloc ?_ _) | (with_reducible refine Kd.C_drewN ?_ _) | (with_reducible refine Kd.C_drew ?_))); (case aB => exact (by repeat (first | (with_reducible first | exact HB.out | apply below_alloc | apply pw_below_drewN | apply below_drew1 | refine below_set ?_ GE362.out) | exact HB.out))); (case aF => exact (fun k_ hk => ⟨Kd.fresh' (Kd.R_lt (by (with_reducible repeat (first | apply Kd.R_alloc | apply Kd.R_drewN | apply Kd.R_drew)); exact HO365.out)) k_ hk, Kd.fresh' (Kd.R_lt (by (with_reducible repeat (first | apply Kd.R_alloc | apply Kd.R_drewN | apply Kd.R_drew)); exact HO374.out)) k_ hk, Kd.fresh' (Kd.R_lt (by (with_reducible repeat (first | apply Kd.R_alloc | apply Kd.R_drewN | apply Kd.R_drew)); exact HO377.out)) k_ hk⟩)); (case aO => exact (by (with_reducible repeat (first | apply Kd.R_alloc | apply Kd.R_drewN | apply Kd.R_drew)); exact Kd.R_mono HO371.out (fun _ hk => ⟨hk.1.1, ⟨hk.1.2, hk.2⟩⟩))); (case aS => exact (below_size (by repeat (first | (with_reducible first | exact HB.out | apply below_alloc | apply pw_below_drewN | apply below_drew1 | refine below_set ?_ GE362.out) | exact HB.out)))); (case aL => have := LMc7.out; omega); intro v379 w20 ho hb hg hat; rw [← Ny378.out] at ho; have n0_ := Aside0.mk (blk_grown (g := gb362) (o := .cells #[.bool true, .bool a0_1, .bool a0_2, .bool a0_3, .int .u32 a0_4, .int .u32 a0_5, .int .i64 a0_6] 24 (0, 0)) (by (with_reducible repeat (first | refine blk_drewN ?_ _ | refine blk_drew ?_ | refine blk_alloc ?_ _)); exact BK362.out) hg (Kd.R_ne HO371.out BK362.out (by decide))); have n1_ := Aside0.mk (Kd.R_after (ok := (fun k_ => some k_ ≠ (.slice Ao18 t372.length co18 : Value).ownBlock ∧ some k_ ≠ (.slice Ao21 t375.length co21 : Value).ownBlock)) (by (with_reducible repeat (first | apply Kd.R_alloc | apply Kd.R_drewN | apply Kd.R_drew)); exact Kd.R_mono HO365.out (fun _ hk => ⟨⟨hk.1.2, hk.2⟩, hk.1.1.2⟩)) hg hat); have n2_ := Aside0.mk (Kd.R_after (ok := (fun k_ => some k_ ≠ (.slice Ao16 y363.length co16 : Value).ownBlock ∧ some k_ ≠ (.slice Ao21 t375.length co21 : Value).ownBlock)) (by (with_reducible repeat (first | apply Kd.R_alloc | apply Kd.R_drewN | apply Kd.R_drew)); exact Kd.R_mono HO374.out (fun _ hk => ⟨⟨hk.1.1.2, hk.2⟩, hk.1.2⟩)) hg hat); have n3_ := Aside0.mk (Kd.R_after (ok := (fun k_ => some k_ ≠ (.slice Ao16 y363.length co16 : Value).ownBlock ∧ some k_ ≠ (.slice Ao18 t372.length co18 : Value).ownBlock)) (by (with_reducible repeat (first | apply Kd.R_alloc | apply Kd.R_drewN | apply Kd.R_drew)); exact Kd.R_mono HO377.out (fun _ hk => ⟨⟨hk.1.1.2, hk.2⟩, hk.1.2⟩)) hg hat); have n4_ := Aside0.mk (hb); have n5_ := Aside0.mk (ho); clear BK362; clear HO365; clear HO374; clear HO377; clear HB; clear HO371; have BK362 := n0_; have HO365 := n1_; have HO374 := n2_; have HO377 := n3_; have HB := n4_; have HO380 := n5_; clear n0_ n1_ n2_ n3_ n4_ n5_; clear ho hb hg hat) | ((with_reducible refine gate_builtin (b := .append) (xs := #[.tmp 29, .tmp 30]) rfl ?_); at_builtin; refine Kd.R_append_rows (Kd.int .u8) (w0 := w) w.heap.size rfl (.tmp 29) (.tmp 30) 35 5 (.int .u8 0) 1 rfl Tryd.underlying35 info5 rfl (by decide) (by omega) v379 y378 y363 _ _ _ (fun k_ => some k_ ≠ (.slice Ao16 y363.length co16 : Value).ownBlock ∧ some k_ ≠ (.slice Ao18 t372.length co18 : Value).ownBlock ∧ some k_ ≠ (.slice Ao21 t375.length co21 : Value).ownBlock) (fun _ => False) rfl rfl ?aO ?aR (fun _ _ h => h) (fun _ h => h.elim) ?aF ?aB ?aS ?aL ?_; (case aR => repeat (first | exact (Kd.R_reads' HO365.out).2.2 | (with_reducible refine Kd.C_alloc ?_ _) | (with_reducible refine Kd.C_drewN ?_ _) | (with_reducible refine Kd.C_drew ?_))); (case aB => exact (by repeat (first | (with_reducible first | exact HB.out | apply below_alloc | apply pw_below_drewN | apply below_drew1 | refine below_set ?_ GE362.out) | exact HB.out))); (case aF => exact (fun k_ hk => ⟨Kd.fresh' (Kd.R_lt (by (with_reducible repeat (first | apply Kd.R_alloc | apply Kd.R_drewN | apply Kd.R_drew)); exact HO365.out)) k_ hk, Kd.fresh' (Kd.R_lt (by (with_reducible repeat (first | apply Kd.R_alloc | apply Kd.R_drewN | apply Kd.R_drew)); exact HO374.out)) k_ hk, Kd.fresh' (Kd.R_lt (by (with_reducible repeat (first | apply Kd.R_alloc | apply Kd.R_drewN | apply Kd.R_drew)); exact HO377.out)) k_ hk⟩)); (case aO => exact (by (with_reducible repeat (first | apply Kd.R_alloc | apply Kd.R_drewN | apply Kd.R_drew)); exact HO380.out)); (case aS => exact (below_size (by repeat (first | (with_reducible first | exact HB.out | apply below_alloc | apply pw_below_drewN | apply below_drew1 | refine below_set ?_ GE362.out) | exact HB.out)))); (case aL => have := LMc8.out; omega); intro v382 w22 ho hb hg hat; rw [← Ny381.out] at ho; have n0_ := Aside0.mk (blk_grown (g := gb362) (o := .cells #[.bool true, .bool a0_1, .bool a0_2, .bool a0_3, .int .u32 a0_4, .int .u32 a0_5, .int .i64 a0_6] 24 (0, 0)) (by (with_reducible repeat (first | refine blk_drewN ?_ _ | refine blk_drew ?_ | refine blk_alloc ?_ _)); exact BK362.out) hg (Kd.R_ne HO380.out BK362.out (by decide))); have n1_ := Aside0.mk (Kd.R_after (ok := (fun k_ => some k_ ≠ (.slice Ao18 t372.length co18 : Value).ownBlock ∧ some k_ ≠ (.slice Ao21 t375.length co21 : Value).ownBlock)) (by (with_reducible repeat (first | apply Kd.R_alloc | apply Kd.R_drewN | apply Kd.R_drew)); exact HO365.out) hg hat); have n2_ := Aside0.mk (Kd.R_after (ok := (fun k_ => some k_ ≠ (.slice Ao16 y363.length co16 : Value).ownBlock ∧ some k_ ≠ (.slice Ao21 t375.length co21 : Value).ownBlock)) (by (with_reducible repeat (first | apply Kd.R_alloc | apply Kd.R_drewN | apply Kd.R_drew)); exact HO374.out) hg hat); have n3_ := Aside0.mk (Kd.R_after (ok := (fun k_ => some k_ ≠ (.slice Ao16 y363.length co16 : Value).ownBlock ∧ some k_ ≠ (.slice Ao18 t372.length co18 : Value).ownBlock)) (by (with_reducible repeat (first | apply Kd.R_alloc | apply Kd.R_drewN | apply Kd.R_drew)); exact HO377.out) hg hat); have n4_ := Aside0.mk (hb); have n5_ := Aside0.mk (ho); clear BK362; clear HO365; clear HO374; clear HO377; clear HB; clear HO380; have BK362 := n0_; have HO365 := n1_; have HO374 := n2_; have HO377 := n3_; have HB := n4_; have HO383 := n5_; clear n0_ n1_ n2_ n3_ n4_ n5_; clear ho hb hg hat))
          go_ret
          exact ⟨_, by first | rfl | (simp [errW_none, errW_some] <;> rfl) | (simp [*, errW_none, errW_some] <;> rfl), by (with_reducible repeat (first | apply Kd.R_alloc | apply Kd.R_drewN | apply Kd.R_drew)); exact Kd.R_mono HO383.out (fun _ hk => trivial), by repeat (first | (with_reducible first | exact HB.out | apply below_alloc | apply pw_below_drewN | apply below_drew1 | refine below_set ?_ GE362.out) | exact HB.out)⟩
        · rw [if_neg c8] at H
          exact absurd H (by simp)
      · rw [if_neg c7] at H
        exact absurd H (by simp)
    · rw [if_neg c4] at H
      exact absurd H (by simp)
  · replace c3 := Bool.eq_false_iff.mpr c3
    subst c3
    have H1 : ((some (([126] : List Int) : List Int)).bind fun y384 => ((marlineref04_Stuff.f k a0_4 l1).bind fun t387 => (if y384.length + t387.length < 140737488355328 then ((some (y384 ++ t387 : List Int)).bind fun y390 => (if y390.length < 140737488355328 then (some (y390 ++ [126])) else (none))) else (none)))) = some r := by rw [if_neg (show ¬ (false = true) by decide)] at H; exact H
    clear H
    have H := H1
    clear H1
    obtain ⟨y384, hy384⟩ : ∃ y_ : List Int, y_ = (([126] : List Int)) := ⟨_, rfl⟩
    replace H : ((marlineref04_Stuff.f k a0_4 l1).bind fun t387 => (if y384.length + t387.length < 140737488355328 then ((some (y384 ++ t387 : List Int)).bind fun y390 => (if y390.length < 140737488355328 then (some (y390 ++ [126])) else (none))) else (none))) = some r := by first | (rw [hy384]; with_reducible exact H) | (have H2_ := (Option.bind_some _ _).symm.trans H; rw [hy384]; with_reducible exact H2_) | (have H2_ := (Option.bind_some _ _).symm.trans H; with_reducible exact H2_) | with_reducible exact H | (rw [hy384]; exact H) | exact H
    have Ny384 := Aside0.mk hy384
    clear hy384
    replace H := Option.bind_eq_some_iff.mp H
    obtain ⟨t387, A230, H⟩ := H
    replace H : (if y384.length + t387.length < 140737488355328 then ((some (y384 ++ t387 : List Int)).bind fun y390 => (if y390.length < 140737488355328 then (some (y390 ++ [126])) else (none))) else (none)) = some r := H
    have A23 := Aside0.mk A230
    clear A230
    by_cases c24 : y384.length + t387.length < 140737488355328
    · rw [if_pos c24] at H
      have LMc24 := Aside0.mk c24
      clear c24
      obtain ⟨y390, hy390⟩ : ∃ y_ : List Int, y_ = (y384 ++ t387) := ⟨_, rfl⟩
      replace H : (if y390.length < 140737488355328 then (some (y390 ++ [126])) else (none)) = some r := by first | (rw [hy390]; with_reducible exact H) | (have H2_ := (Option.bind_some _ _).symm.trans H; rw [hy390]; with_reducible exact H2_) | (have H2_ := (Option.bind_some _ _).symm.trans H; with_reducible exact H2_) | with_reducible exact H | (rw [hy390]; exact H) | exact H
      have Ny390 := Aside0.mk hy390
      clear hy390
      by_cases c25 : y390.length < 140737488355328
      · rw [if_pos c25] at H
        have LMc25 := Aside0.mk c25
        clear c25
        obtain ⟨y393, hy393⟩ : ∃ y_ : List Int, y_ = (y390 ++ [126]) := ⟨_, rfl⟩
        replace H : (some y393) = some r := by first | (rw [hy393]; with_reducible exact H) | (have H2_ := (Option.bind_some _ _).symm.trans H; rw [hy393]; with_reducible exact H2_) | (have H2_ := (Option.bind_some _ _).symm.trans H; with_reducible exact H2_) | with_reducible exact H | (rw [hy393]; exact H) | exact H
        have Ny393 := Aside0.mk hy393
        clear hy393
        obtain rfl := Option.some.inj H
        go_enter Tryd.func52, Tryd.ntmps52
        go_wp2_with (first | ((with_reducible refine gate_dst (N := 2) rfl ?_); refine box_event ?hg (N := 2) ?hd (cs := #[.bool false, .bool a0_1, .bool a0_2, .bool a0_3, .int .u32 a0_4, .int .u32 a0_5, .int .i64 a0_6]) (t := 24) ?hr ?_; (case hd => rfl); (case hg => rfl); (case hr => first | (go_simp; done) | (go_simp; rfl)); intro gb362 hg w26 hbox hb; have n0_ := Aside0.mk (below_step (by repeat (first | (with_reducible first | exact HB.out | apply below_alloc | apply pw_below_drewN | apply below_drew1) | exact HB.out)) hb); have n1_ := Aside0.mk (hbox); have n2_ := Aside0.mk ((by rw [hg]; exact (below_size (by repeat (first | (with_reducible first | exact HB.out | apply below_alloc | apply pw_below_drewN | apply below_drew1) | exact HB.out))) : w.heap.size ≤ gb362)); have n3_ := Aside0.mk ((by rw [hg]; exact (below_size (by repeat (first | (with_reducible first | exact HB.out | apply below_alloc | apply pw_below_drewN | apply below_drew1) | exact HB.out))) : w.heap.size ≤ gb362)); clear HB; have HB := n0_; have BK362 := n1_; have GW362 := n2_; have GE362 := n3_; clear n0_ n1_ n2_ n3_; clear hb hbox hg; have hcz27_0 : w26.cell? ⟨gb362, 0, none⟩ = some (.bool false) := (blk_cell BK362.out 0).trans rfl; have hcz27_1 : w26.cell? ⟨gb362, 1, none⟩ = some (.bool a0_1) := (blk_cell BK362.out 1).trans rfl; have hcz27_2 : w26.cell? ⟨gb362, 2, none⟩ = some (.bool a0_2) := (blk_cell BK362.out 2).trans rfl; have hcz27_3 : w26.cell? ⟨gb362, 3, none⟩ = some (.bool a0_3) := (blk_cell BK362.out 3).trans rfl; have hcz27_4 : w26.cell? ⟨gb362, 4, none⟩ = some (.int .u32 a0_4) := (blk_cell BK362.out 4).trans rfl; have hcz27_5 : w26.cell? ⟨gb362, 5, none⟩ = some (.int .u32 a0_5) := (blk_cell BK362.out 5).trans rfl; have hcz27_6 : w26.cell? ⟨gb362, 6, none⟩ = some (.int .i64 a0_6) := (blk_cell BK362.out 6).trans rfl; have hfz27_0 := blk_frozen BK362.out 0; have hfz27_1 := blk_frozen BK362.out 1; have hfz27_2 := blk_frozen BK362.out 2; have hfz27_3 := blk_frozen BK362.out 3; have hfz27_4 := blk_frozen BK362.out 4; have hfz27_5 := blk_frozen BK362.out 5; have hfz27_6 := blk_frozen BK362.out 6) | ((with_reducible refine gate_dst (N := 11) rfl ?_); refine Kd.R_lit (Kd.int .u8) _ 5 ?hg (N := 11) ?hd (xs := ([126] : List Int)) (inner := [.int .u8 126]) (ok := fun _ => True) (okp := fun _ => True) ?hr ?hp (fun _ hk => hk) trivial (Below.refl _ _) (Nat.le_refl _) (by simp) ?_; (case hd => rfl); (case hg => rfl); (case hr => first | (go_simp; done) | (go_simp; rfl)); (case hp => exact (Reps.one (show Kd.M (Kd.int .u8) _ _ _ 126 [.int .u8 126] from rfl) (Reps.none _ _))); intro v385 w28 ho29 hb hg_ hnew_; clear hg_ hnew_; (first | rw [← Ny384.out] at ho29 | (simp only [Int.reduceToNat] at ho29; rw [← Ny384.out] at ho29)); have n0_ := Aside0.mk (Kd.R_lower ho29 (below_size (by repeat (first | (with_reducible first | exact HB.out | apply below_alloc | apply pw_below_drewN | apply below_drew1 | refine below_set ?_ GE362.out) | exact HB.out)))); have n1_ := Aside0.mk (blk_below (g := gb362) (o := .cells #[.bool false, .bool a0_1, .bool a0_2, .bool a0_3, .int .u32 a0_4, .int .u32 a0_5, .int .i64 a0_6] 24 (0, 0)) (by (with_reducible repeat (first | refine blk_drewN ?_ _ | refine blk_drew ?_ | refine blk_alloc ?_ _)); exact BK362.out) hb); have n2_ := Aside0.mk (below_step (by repeat (first | (with_reducible first | exact HB.out | apply below_alloc | apply pw_below_drewN | apply below_drew1 | refine below_set ?_ GE362.out) | exact HB.out)) hb); clear BK362; clear HB; have HO386 := n0_; have BK362 := n1_; have HB := n2_; clear n0_ n1_ n2_; clear hb ho29; have hcz30_0 : w28.cell? ⟨gb362, 0, none⟩ = some (.bool false) := (blk_cell BK362.out 0).trans rfl; have hcz30_1 : w28.cell? ⟨gb362, 1, none⟩ = some (.bool a0_1) := (blk_cell BK362.out 1).trans rfl; have hcz30_2 : w28.cell? ⟨gb362, 2, none⟩ = some (.bool a0_2) := (blk_cell BK362.out 2).trans rfl; have hcz30_3 : w28.cell? ⟨gb362, 3, none⟩ = some (.bool a0_3) := (blk_cell BK362.out 3).trans rfl; have hcz30_4 : w28.cell? ⟨gb362, 4, none⟩ = some (.int .u32 a0_4) := (blk_cell BK362.out 4).trans rfl; have hcz30_5 : w28.cell? ⟨gb362, 5, none⟩ = some (.int .u32 a0_5) := (blk_cell BK362.out 5).trans rfl; have hcz30_6 : w28.cell? ⟨gb362, 6, none⟩ = some (.int .i64 a0_6) := (blk_cell BK362.out 6).trans rfl; have hfz30_0 := blk_frozen BK362.out 0; have hfz30_1 := blk_frozen BK362.out 1; have hfz30_2 := blk_frozen BK362.out 2; have hfz30_3 := blk_frozen BK362.out 3; have hfz30_4 := blk_frozen BK362.out 4; have hfz30_5 := blk_frozen BK362.out 5; have hfz30_6 := blk_frozen BK362.out 6) | ((with_reducible refine gate_callee (f := 74) rfl ?_); refine goesL_ (some 15) rfl rfl Tryd.func74 (by kernel_rfl) rfl #[.int .u32 a0_4, .slice A1 l1.length c1] rfl (by (try simp only [List.map_toArray, List.map_cons, List.map_nil]); first | done | rfl | (simp only [List.length_drop, List.length_take]; rfl)) ?_; (with_reducible refine (marlineref04_Stuff.calls k a0_4 _ _ l1 t387 _ ?side1 ?side2 A23.out).mono ?_); (case side1 => repeat (first | exact (Kd.C_below HR1.out HB.out) | (with_reducible refine Kd.C_alloc ?_ _) | (with_reducible refine Kd.C_drewN ?_ _) | (with_reducible refine Kd.C_drew ?_))); (case side2 => exact HC1.out); rintro e w31 ⟨v388, rfl, ho0, hb⟩; refine ⟨_, rfl, ?_⟩; have n0_ := Aside0.mk (Kd.R_elder' (by (with_reducible repeat (first | apply Kd.R_alloc | apply Kd.R_drewN | apply Kd.R_drew)); exact HO386.out) (Kd.R_base ho0) hb); have n1_ := Aside0.mk (Kd.R_lower (Kd.R_new' ho0 (Kd.R_lt (by (with_reducible repeat (first | apply Kd.R_alloc | apply Kd.R_drewN | apply Kd.R_drew)); exact HO386.out))) (below_size (by repeat (first | (with_reducible first | exact HB.out | apply below_alloc | apply pw_below_drewN | apply below_drew1 | refine below_set ?_ GE362.out) | exact HB.out)))); have n2_ := Aside0.mk (blk_below (g := gb362) (o := .cells #[.bool false, .bool a0_1, .bool a0_2, .bool a0_3, .int .u32 a0_4, .int .u32 a0_5, .int .i64 a0_6] 24 (0, 0)) (by (with_reducible repeat (first | refine blk_drewN ?_ _ | refine blk_drew ?_ | refine blk_alloc ?_ _)); exact BK362.out) hb); have n3_ := Aside0.mk (below_step (by repeat (first | (with_reducible first | exact HB.out | apply below_alloc | apply pw_below_drewN | apply below_drew1 | refine below_set ?_ GE362.out) | exact HB.out)) hb); clear HO386; clear BK362; clear HB; have HO386 := n0_; have HO389 := n1_; have BK362 := n2_; have HB := n3_; clear n0_ n1_ n2_ n3_; (try clear hb); (try clear hb2); (try clear hk); (try clear hi); (try clear ho0); obtain ⟨Ao33, co33, eo33⟩ := Kd.R_slice HO389.out; subst eo33) | ((with_reducible refine gate_builtin (b := .append) (xs := #[.tmp 11, .tmp 15]) rfl ?_); at_builtin; refine Kd.R_append_rows (Kd.int .u8) (w0 := w) w.heap.size rfl (.tmp 11) (.tmp 15) 35 5 (.int .u8 0) 1 rfl Tryd.underlying35 info5 rfl (by decide) (by omega) v385 y384 t387 _ _ _ (fun k_ => some k_ ≠ (.slice Ao33 t387.length co33 : Value).ownBlock) (fun _ => False) rfl rfl ?aO ?aR (fun _ _ h => h) (fun _ h => h.elim) ?aF ?aB ?aS ?aL ?_; (case aR => repeat (first | exact (Kd.R_reads' HO389.out).2.2 | (with_reducible refine Kd.C_alloc ?_ _) | (with_reducible refine Kd.C_drewN ?_ _) | (with_reducible refine Kd.C_drew ?_))); (case aB => exact (by repeat (first | (with_reducible first | exact HB.out | apply below_alloc | apply pw_below_drewN | apply below_drew1 | refine below_set ?_ GE362.out) | exact HB.out))); (case aF => exact (fun k_ hk => Kd.fresh' (Kd.R_lt (by (with_reducible repeat (first | apply Kd.R_alloc | apply Kd.R_drewN | apply Kd.R_drew)); exact HO389.out)) k_ hk)); (case aO => exact (by (with_reducible repeat (first | apply Kd.R_alloc | apply Kd.R_drewN | apply Kd.R_drew)); exact Kd.R_mono HO386.out (fun _ hk => hk.2))); (case aS => exact (below_size (by repeat (first | (with_reducible first | exact HB.out | apply below_alloc | apply pw_below_drewN | apply below_drew1 | refine below_set ?_ GE362.out) | exact HB.out)))); (case aL => have := LMc24.out; omega); intro v391 w32 ho hb hg hat; rw [← Ny390.out] at ho; have n0_ := Aside0.mk (blk_grown (g := gb362) (o := .cells #[.bool false, .bool a0_1, .bool a0_2, .bool a0_3, .int .u32 a0_4, .int .u32 a0_5, .int .i64 a0_6] 24 (0, 0)) (by (with_reducible repeat (first | refine blk_drewN ?_ _ | refine blk_drew ?_ | refine blk_alloc ?_ _)); exact BK362.out) hg (Kd.R_ne HO386.out BK362.out (by decide))); have n1_ := Aside0.mk (Kd.R_after (ok := (fun _ => True)) (by (with_reducible repeat (first | apply Kd.R_alloc | apply Kd.R_drewN | apply Kd.R_drew)); exact HO389.out) hg hat); have n2_ := Aside0.mk (hb); have n3_ := Aside0.mk (ho); clear BK362; clear HO389; clear HB; clear HO386; have BK362 := n0_; have HO389 := n1_; have HB := n2_; have HO392 := n3_; clear n0_ n1_ n2_ n3_; clear ho hb hg hat) | ((with_reducible refine gate_builtin (b := .append) (xs := #[.tmp 17, .tmp 18]) rfl ?_); at_builtin; refine Kd.R_append (Kd.int .u8) (w0 := w) w.heap.size rfl (.tmp 17) (.tmp 18) 35 5 (.int .u8 0) 1 rfl Tryd.underlying35 info5 rfl (by decide) (by omega) v391 y390 126 [.int .u8 126] (fun k_ => some k_ ≠ (.slice Ao33 t387.length co33 : Value).ownBlock) (fun _ => False) rfl rfl ?aP (fun _ hk => hk.elim) ?aF ?aO ?aB ?aS ?aL ?_; (case aP => exact rfl); (case aB => exact (by repeat (first | (with_reducible first | exact HB.out | apply below_alloc | apply pw_below_drewN | apply below_drew1 | refine below_set ?_ GE362.out) | exact HB.out))); (case aF => exact (fun k_ hk => Kd.fresh' (Kd.R_lt (by (with_reducible repeat (first | apply Kd.R_alloc | apply Kd.R_drewN | apply Kd.R_drew)); exact HO389.out)) k_ hk)); (case aO => exact (by (with_reducible repeat (first | apply Kd.R_alloc | apply Kd.R_drewN | apply Kd.R_drew)); exact HO392.out)); (case aS => exact (below_size (by repeat (first | (with_reducible first | exact HB.out | apply below_alloc | apply pw_below_drewN | apply below_drew1 | refine below_set ?_ GE362.out) | exact HB.out)))); (case aL => have := LMc25.out; omega); intro v394 w34 ho hb hg hat; rw [← Ny393.out] at ho; have n0_ := Aside0.mk (blk_grown (g := gb362) (o := .cells #[.bool false, .bool a0_1, .bool a0_2, .bool a0_3, .int .u32 a0_4, .int .u32 a0_5, .int .i64 a0_6] 24 (0, 0)) (by (with_reducible repeat (first | refine blk_drewN ?_ _ | refine blk_drew ?_ | refine blk_alloc ?_ _)); exact BK362.out) hg (Kd.R_ne HO392.out BK362.out (by decide))); have n1_ := Aside0.mk (Kd.R_after (ok := (fun _ => True)) (by (with_reducible repeat (first | apply Kd.R_alloc | apply Kd.R_drewN | apply Kd.R_drew)); exact HO389.out) hg hat); have n2_ := Aside0.mk (hb); have n3_ := Aside0.mk (ho); clear BK362; clear HO389; clear HB; clear HO392; have BK362 := n0_; have HO389 := n1_; have HB := n2_; have HO395 := n3_; clear n0_ n1_ n2_ n3_; clear ho hb hg hat))
        go_ret
        exact ⟨_, by first | rfl | (simp [errW_none, errW_some] <;> rfl) | (simp [*, errW_none, errW_some] <;> rfl), by (with_reducible repeat (first | apply Kd.R_alloc | apply Kd.R_drewN | apply Kd.R_drew)); exact Kd.R_mono HO395.out (fun _ hk => trivial), by repeat (first | (with_reducible first | exact HB.out | apply below_alloc | apply pw_below_drewN | apply below_drew1 | refine below_set ?_ GE362.out) | exact HB.out)⟩
      · rw [if_neg c25] at H
        exact absurd H (by simp)
    · rw [if_neg c24] at H
      exact absurd H (by simp)
end Go.Proofs.YtggpejjfgphihaaDoor.H
end

section
namespace Go.Proofs.YtggpejjfgphihaaDoor.Y
open Go.Proofs.YtggpejjfgphihaaDoor.Given Go.Proofs.YtggpejjfgphihaaDoor.Z Go.RowKit Go.Proofs.YtggpejjfgphihaaDoorW.PrintWords Go.Proofs.YtggpejjfgphihaaDoorW.PrintLast Go.Proofs.YtggpejjfgphihaaDoorW.PrintMore
attribute [local go_sem] max2_int min2_int max_two min_two max_three min_three max_four min_four
set_option linter.unusedVariables false
set_option linter.unusedSimpArgs false
def errW : Option Int → Value
  | none => .nilIface
  | some c => .iface 0 (.int .i64 c)
theorem errW_none : errW none = .nilIface := rfl
theorem errW_some (c : Int) : errW (some c) = .iface 0 (.int .i64 c) := rfl
theorem info5 : (Tryd.prog.info? 5).map (fun i => (i.zero, i.size, i.bytes)) = some (some (.int .u8 0), 1, 1) := by kernel_rfl
def rd_L1 (xs : List (List Int)) (i : Int) : (List Int) := xs.getD i.toNat ([] : List Int)
theorem at_L1 {w : World} {A : Option Addr} {n : Nat} {xs : List (List Int)} (h : Kd.C (Kd.slice 5 (Kd.int .u8)) w A n xs) (i : Int) (h0 : 0 ≤ i) (h1 : i < n) : ∃ ad A0 c0, A = some ad ∧ w.cell? (ad.add i.toNat) = some (.slice A0 (rd_L1 xs i).length c0) ∧ (rd_L1 xs i).length ≤ c0 ∧ (Kd.int .u8).C w A0 (rd_L1 xs i).length (rd_L1 xs i) := by
  obtain ⟨ad, c, e, _, hK, hc0⟩ := Kd.C_get h ([] : List Int) i h0 h1
  have hc : ∀ j u, c[j]? = some u → w.cell? (ad.add (i.toNat * 1 + j)) = some u := hc0
  obtain ⟨A0, c0, rfl, l0, g0⟩ := hK
  exact ⟨ad, A0, c0, e, by have hq := hc 0 _ rfl; rwa [Nat.mul_one, Nat.add_zero] at hq, l0, g0⟩
end Go.Proofs.YtggpejjfgphihaaDoor.Y
end

section
namespace Go.Proofs.YtggpejjfgphihaaDoor.Y
open Go.Proofs.YtggpejjfgphihaaDoor.Given Go.Proofs.YtggpejjfgphihaaDoor.Z Go.RowKit Go.Proofs.YtggpejjfgphihaaDoorW.PrintWords Go.Proofs.YtggpejjfgphihaaDoorW.PrintLast Go.Proofs.YtggpejjfgphihaaDoorW.PrintMore
attribute [local go_sem] max2_int min2_int max_two min_two max_three min_three max_four min_four
set_option linter.unusedVariables false
set_option linter.unusedSimpArgs false
def async_Wrap.f (k : Nat) (a0 : Int) (l1 : List Int) : Option (List Int) := (stuff_Stuff.f k a0 l1).bind fun t104 => ((slices_Concat_byte_byte.f (([(([126] : List Int)), t104, (([126] : List Int))] : List (List Int)))).bind fun t113 => (some t113))
set_option maxHeartbeats 8000000 in
set_option maxRecDepth 100000 in
theorem async_Wrap.calls (k : Nat) (a0 : Int) (A1 : Option Addr) (c1 : Nat) (l1 : List Int) (r : List Int) (w : World) (hr1 : Kd.C (Kd.int .u8) w A1 l1.length l1) (hc1 : l1.length ≤ c1) (h : async_Wrap.f k a0 l1 = some r) :
    Calls Tryd.prog 73 #[.int .u32 a0, .slice A1 l1.length c1] w fun e w' => ∃ v0_ : Value, e = .returned (v0_) ∧ Kd.R (Kd.int .u8) 5 w' w.heap.size (fun _ => True) v0_ r ∧ Below w.heap.size w w' := by
  have HR1 := Aside0.mk hr1
  have HC1 := Aside0.mk hc1
  clear hr1 hc1
  have HB := Aside0.mk (Below.refl w.heap.size w)
  have H : ((stuff_Stuff.f k a0 l1).bind fun t104 => ((slices_Concat_byte_byte.f (([(([126] : List Int)), t104, (([126] : List Int))] : List (List Int)))).bind fun t113 => (some t113))) = some r := h
  clear h
  obtain ⟨y101, hy101⟩ : ∃ y_ : List Int, y_ = (([126] : List Int)) := ⟨_, rfl⟩
  replace H : ((stuff_Stuff.f k a0 l1).bind fun t104 => ((slices_Concat_byte_byte.f (([y101, t104, (([126] : List Int))] : List (List Int)))).bind fun t113 => (some t113))) = some r := by first | (rw [hy101]; with_reducible exact H) | (have H2_ := (Option.bind_some _ _).symm.trans H; rw [hy101]; with_reducible exact H2_) | (have H2_ := (Option.bind_some _ _).symm.trans H; with_reducible exact H2_) | with_reducible exact H | (rw [hy101]; exact H) | exact H
  have Ny101 := Aside0.mk hy101
  clear hy101
  replace H := Option.bind_eq_some_iff.mp H
  obtain ⟨t104, A30, H⟩ := H
  replace H : ((slices_Concat_byte_byte.f (([y101, t104, (([126] : List Int))] : List (List Int)))).bind fun t113 => (some t113)) = some r := H
  have A3 := Aside0.mk A30
  clear A30
  obtain ⟨y107, hy107⟩ : ∃ y_ : List Int, y_ = (([126] : List Int)) := ⟨_, rfl⟩
  replace H : ((slices_Concat_byte_byte.f (([y101, t104, y107] : List (List Int)))).bind fun t113 => (some t113)) = some r := by first | (rw [hy107]; with_reducible exact H) | (have H2_ := (Option.bind_some _ _).symm.trans H; rw [hy107]; with_reducible exact H2_) | (have H2_ := (Option.bind_some _ _).symm.trans H; with_reducible exact H2_) | with_reducible exact H | (rw [hy107]; exact H) | exact H
  have Ny107 := Aside0.mk hy107
  clear hy107
  obtain ⟨y110, hy110⟩ : ∃ y_ : List (List Int), y_ = (([y101, t104, y107] : List (List Int))) := ⟨_, rfl⟩
  replace H : ((slices_Concat_byte_byte.f y110).bind fun t113 => (some t113)) = some r := by first | (rw [hy110]; with_reducible exact H) | (have H2_ := (Option.bind_some _ _).symm.trans H; rw [hy110]; with_reducible exact H2_) | (have H2_ := (Option.bind_some _ _).symm.trans H; with_reducible exact H2_) | with_reducible exact H | (rw [hy110]; exact H) | exact H
  have Ny110 := Aside0.mk hy110
  clear hy110
  replace H := Option.bind_eq_some_iff.mp H
  obtain ⟨t113, A40, H⟩ := H
  replace H : (some t113) = some r := H
  have A4 := Aside0.mk A40
  clear A40
  obtain rfl := Option.some.inj H
  go_enter Tryd.func73, Tryd.ntmps73
  go_wp2_with (first | ((with_reducible refine gate_dst (N := 5) rfl ?_); refine Kd.R_lit (Kd.int .u8) _ 5 ?hg (N := 5) ?hd (xs := ([126] : List Int)) (inner := [.int .u8 126]) (ok := fun _ => True) (okp := fun _ => True) ?hr ?hp (fun _ hk => hk) trivial (Below.refl _ _) (Nat.le_refl _) (by simp) ?_; (case hd => rfl); (case hg => rfl); (case hr => first | (go_simp; done) | (go_simp; rfl)); (case hp => exact (Reps.one (show Kd.M (Kd.int .u8) _ _ _ 126 [.int .u8 126] from rfl) (Reps.none _ _))); intro v102 w5 ho6 hb hg_ hnew_; clear hg_ hnew_; (first | rw [← Ny101.out] at ho6 | (simp only [Int.reduceToNat] at ho6; rw [← Ny101.out] at ho6)); have n0_ := Aside0.mk (Kd.R_lower ho6 (below_size (by repeat (first | (with_reducible first | exact HB.out | apply below_alloc | apply pw_below_drewN | apply below_drew1) | exact HB.out)))); have n1_ := Aside0.mk (below_step (by repeat (first | (with_reducible first | exact HB.out | apply below_alloc | apply pw_below_drewN | apply below_drew1) | exact HB.out)) hb); clear HB; have HO103 := n0_; have HB := n1_; clear n0_ n1_; clear hb ho6) | ((with_reducible refine gate_callee (f := 88) rfl ?_); refine goesL_ (some 8) rfl rfl Tryd.func88 (by kernel_rfl) rfl #[.int .u32 a0, .slice A1 l1.length c1] rfl (by (try simp only [List.map_toArray, List.map_cons, List.map_nil]); first | done | rfl | (simp only [List.length_drop, List.length_take]; rfl)) ?_; (with_reducible refine (stuff_Stuff.calls k a0 _ _ l1 t104 _ ?side1 ?side2 A3.out).mono ?_); (case side1 => repeat (first | exact (Kd.C_below HR1.out HB.out) | (with_reducible refine Kd.C_alloc ?_ _) | (with_reducible refine Kd.C_drewN ?_ _) | (with_reducible refine Kd.C_drew ?_))); (case side2 => exact HC1.out); rintro e w7 ⟨v105, rfl, ho0, hb⟩; refine ⟨_, rfl, ?_⟩; have n0_ := Aside0.mk (Kd.R_elder' (by (with_reducible repeat (first | apply Kd.R_alloc | apply Kd.R_drewN | apply Kd.R_drew)); exact HO103.out) (Kd.R_base ho0) hb); have n1_ := Aside0.mk (Kd.R_lower (Kd.R_new' ho0 (Kd.R_lt (by (with_reducible repeat (first | apply Kd.R_alloc | apply Kd.R_drewN | apply Kd.R_drew)); exact HO103.out))) (below_size (by repeat (first | (with_reducible first | exact HB.out | apply below_alloc | apply pw_below_drewN | apply below_drew1) | exact HB.out)))); have n2_ := Aside0.mk (below_step (by repeat (first | (with_reducible first | exact HB.out | apply below_alloc | apply pw_below_drewN | apply below_drew1) | exact HB.out)) hb); clear HO103; clear HB; have HO103 := n0_; have HO106 := n1_; have HB := n2_; clear n0_ n1_ n2_; (try clear hb); (try clear hb2); (try clear hk); (try clear hi); (try clear ho0)) | ((with_reducible refine gate_dst (N := 9) rfl ?_); refine Kd.R_lit (Kd.int .u8) _ 5 ?hg (N := 9) ?hd (xs := ([126] : List Int)) (inner := [.int .u8 126]) (ok := fun _ => True) (okp := fun _ => True) ?hr ?hp (fun _ hk => hk) trivial (Below.refl _ _) (Nat.le_refl _) (by simp) ?_; (case hd => rfl); (case hg => rfl); (case hr => first | (go_simp; done) | (go_simp; rfl)); (case hp => exact (Reps.one (show Kd.M (Kd.int .u8) _ _ _ 126 [.int .u8 126] from rfl) (Reps.none _ _))); intro v108 w8 ho9 hb hg_ hnew_; clear hg_ hnew_; (first | rw [← Ny107.out] at ho9 | (simp only [Int.reduceToNat] at ho9; rw [← Ny107.out] at ho9)); have n0_ := Aside0.mk (Kd.R_elder' (by (with_reducible repeat (first | apply Kd.R_alloc | apply Kd.R_drewN | apply Kd.R_drew)); exact HO103.out) (Kd.R_base ho9) hb); have n1_ := Aside0.mk (Kd.R_elder' (by (with_reducible repeat (first | apply Kd.R_alloc | apply Kd.R_drewN | apply Kd.R_drew)); exact HO106.out) (Kd.R_base ho9) hb); have n2_ := Aside0.mk (Kd.R_lower (Kd.R_new' (Kd.R_new' ho9 (Kd.R_lt (by (with_reducible repeat (first | apply Kd.R_alloc | apply Kd.R_drewN | apply Kd.R_drew)); exact HO103.out))) (Kd.R_lt (by (with_reducible repeat (first | apply Kd.R_alloc | apply Kd.R_drewN | apply Kd.R_drew)); exact HO106.out))) (below_size (by repeat (first | (with_reducible first | exact HB.out | apply below_alloc | apply pw_below_drewN | apply below_drew1) | exact HB.out)))); have n3_ := Aside0.mk (below_step (by repeat (first | (with_reducible first | exact HB.out | apply below_alloc | apply pw_below_drewN | apply below_drew1) | exact HB.out)) hb); clear HO103; clear HO106; clear HB; have HO103 := n0_; have HO106 := n1_; have HO109 := n2_; have HB := n3_; clear n0_ n1_ n2_ n3_; clear hb ho9; obtain ⟨Ao10, co10, eo10⟩ := Kd.R_slice HO103.out; subst eo10; obtain ⟨Ao11, co11, eo11⟩ := Kd.R_slice HO106.out; subst eo11; obtain ⟨Ao12, co12, eo12⟩ := Kd.R_slice HO109.out; subst eo12) | ((with_reducible refine gate_dst (N := 10) rfl ?_); refine Kd.N_lit (Kd.slice 5 (Kd.int .u8)) _ 35 ?hg (N' := 10) ?hd (xs := ([y101, t104, y107] : List (List Int))) (inner := [.slice Ao10 y101.length co10, .slice Ao11 t104.length co11, .slice Ao12 y107.length co12]) (ok := (fun _ => True)) (okp := (fun _ => True)) ?hr ?hp (fun _ hk => hk) ((show ∀ k_, w8.heap.size ≤ k_ → (fun _ => True) k_ from fun k_ hk => trivial) _ (Nat.le_refl _)) (Below.refl _ _) (Nat.le_refl _) (by simp) ?_; (case hd => rfl); (case hg => rfl); (case hr => first | (go_simp; done) | (go_simp; rfl)); (case hp => exact (Reps.one (show Kd.FK (Kd.slice 5 (Kd.int .u8)) _ _ y101 [.slice Ao10 y101.length co10] from (Kd.FK_slice_mk (Kd.R_reads' (Kd.R_mono (ok' := (fun _ => True)) (HO103.out) (fun k_ hk => trivial))).2.1 (Kd.R_F (Kd.R_mono (ok' := (fun _ => True)) (HO103.out) (fun k_ hk => trivial))))) (Reps.one (show Kd.FK (Kd.slice 5 (Kd.int .u8)) _ _ t104 [.slice Ao11 t104.length co11] from (Kd.FK_slice_mk (Kd.R_reads' (Kd.R_mono (ok' := (fun _ => True)) (HO106.out) (fun k_ hk => trivial))).2.1 (Kd.R_F (Kd.R_mono (ok' := (fun _ => True)) (HO106.out) (fun k_ hk => trivial))))) (Reps.one (show Kd.FK (Kd.slice 5 (Kd.int .u8)) _ _ y107 [.slice Ao12 y107.length co12] from (Kd.FK_slice_mk (Kd.R_reads' (Kd.R_mono (ok' := (fun _ => True)) (HO109.out) (fun k_ hk => trivial))).2.1 (Kd.R_F (Kd.R_mono (ok' := (fun _ => True)) (HO109.out) (fun k_ hk => trivial))))) (Reps.none _ _))))); intro v111 w13 ho14 hb hg_ hnew_; clear hg_ hnew_; (first | rw [← Ny110.out] at ho14 | (simp only [Int.reduceToNat] at ho14; rw [← Ny110.out] at ho14)); have n0_ := Aside0.mk (Kd.N_lower ho14 (below_size (by repeat (first | (with_reducible first | exact HB.out | apply below_alloc | apply pw_below_drewN | apply below_drew1) | exact HB.out)))); have n1_ := Aside0.mk (below_step (by repeat (first | (with_reducible first | exact HB.out | apply below_alloc | apply pw_below_drewN | apply below_drew1) | exact HB.out)) hb); clear HB; clear HO103; clear HO106; clear HO109; have HO112 := n0_; have HB := n1_; clear n0_ n1_; clear hb ho14; obtain ⟨Ao15, co15, eo15⟩ := Kd.N_slice HO112.out; subst eo15) | ((with_reducible refine gate_callee (f := 70) rfl ?_); refine goesL_ (some 11) rfl rfl Tryd.func70 (by kernel_rfl) rfl #[.slice Ao15 y110.length co15] rfl (by (try simp only [List.map_toArray, List.map_cons, List.map_nil]); first | done | rfl | (simp only [List.length_drop, List.length_take]; rfl)) ?_; (with_reducible refine (slices_Concat_byte_byte.calls _ _ y110 t113 _ ?side1 ?side2 A4.out).mono ?_); (case side1 => repeat (first | exact (Kd.N_reads' HO112.out).2.2 | (with_reducible refine Kd.C_alloc ?_ _) | (with_reducible refine Kd.C_drewN ?_ _) | (with_reducible refine Kd.C_drew ?_))); (case side2 => exact (Kd.N_reads' HO112.out).2.1); rintro e w16 ⟨v114, rfl, ho0, hb⟩; refine ⟨_, rfl, ?_⟩; have n0_ := Aside0.mk (Kd.N_elder' (by (with_reducible repeat (first | apply Kd.N_alloc | apply Kd.N_drewN | apply Kd.N_drew)); exact HO112.out) (Kd.R_base ho0) hb); have n1_ := Aside0.mk (Kd.R_lower ho0 (below_size (by repeat (first | (with_reducible first | exact HB.out | apply below_alloc | apply pw_below_drewN | apply below_drew1) | exact HB.out)))); have n2_ := Aside0.mk (below_step (by repeat (first | (with_reducible first | exact HB.out | apply below_alloc | apply pw_below_drewN | apply below_drew1) | exact HB.out)) hb); clear HO112; clear HB; have HO112 := n0_; have HO115 := n1_; have HB := n2_; clear n0_ n1_ n2_; (try clear hb); (try clear hb2); (try clear hk); (try clear hi); (try clear ho0)))
  go_ret
  exact ⟨_, by first | rfl | (simp [errW_none, errW_some] <;> rfl) | (simp [*, errW_none, errW_some] <;> rfl), by (with_reducible repeat (first | apply Kd.R_alloc | apply Kd.R_drewN | apply Kd.R_drew)); exact HO115.out, by repeat (first | (with_reducible first | exact HB.out | apply below_alloc | apply pw_below_drewN | apply below_drew1) | exact HB.out)⟩
def sync_Wrap.f (k : Nat) (l0 : List Int) : Option (List Int) := (zero_Flag.f k).bind fun t116 => ((bits_Of.f k l0).bind fun t119 => ((zero_Insert.f k t119).bind fun t122 => ((zero_Flag.f k).bind fun t125 => ((slices_Concat_byte_byte.f (([t116, t122, t125] : List (List Int)))).bind fun t131 => (some t131)))))
set_option maxHeartbeats 8000000 in
set_option maxRecDepth 100000 in
theorem sync_Wrap.calls (k : Nat) (A0 : Option Addr) (c0 : Nat) (l0 : List Int) (r : List Int) (w : World) (hr0 : Kd.C (Kd.int .u8) w A0 l0.length l0) (hc0 : l0.length ≤ c0) (h : sync_Wrap.f k l0 = some r) :
    Calls Tryd.prog 72 #[.slice A0 l0.length c0] w fun e w' => ∃ v0_ : Value, e = .returned (v0_) ∧ Kd.R (Kd.int .u8) 5 w' w.heap.size (fun _ => True) v0_ r ∧ Below w.heap.size w w' := by
  have HR0 := Aside0.mk hr0
  have HC0 := Aside0.mk hc0
  clear hr0 hc0
  have HB := Aside0.mk (Below.refl w.heap.size w)
  have H : ((zero_Flag.f k).bind fun t116 => ((bits_Of.f k l0).bind fun t119 => ((zero_Insert.f k t119).bind fun t122 => ((zero_Flag.f k).bind fun t125 => ((slices_Concat_byte_byte.f (([t116, t122, t125] : List (List Int)))).bind fun t131 => (some t131)))))) = some r := h
  clear h
  replace H := Option.bind_eq_some_iff.mp H
  obtain ⟨t116, A20, H⟩ := H
  replace H : ((bits_Of.f k l0).bind fun t119 => ((zero_Insert.f k t119).bind fun t122 => ((zero_Flag.f k).bind fun t125 => ((slices_Concat_byte_byte.f (([t116, t122, t125] : List (List Int)))).bind fun t131 => (some t131))))) = some r := H
  have A2 := Aside0.mk A20
  clear A20
  replace H := Option.bind_eq_some_iff.mp H
  obtain ⟨t119, A30, H⟩ := H
  replace H : ((zero_Insert.f k t119).bind fun t122 => ((zero_Flag.f k).bind fun t125 => ((slices_Concat_byte_byte.f (([t116, t122, t125] : List (List Int)))).bind fun t131 => (some t131)))) = some r := H
  have A3 := Aside0.mk A30
  clear A30
  replace H := Option.bind_eq_some_iff.mp H
  obtain ⟨t122, A40, H⟩ := H
  replace H : ((zero_Flag.f k).bind fun t125 => ((slices_Concat_byte_byte.f (([t116, t122, t125] : List (List Int)))).bind fun t131 => (some t131))) = some r := H
  have A4 := Aside0.mk A40
  clear A40
  replace H := Option.bind_eq_some_iff.mp H
  obtain ⟨t125, A50, H⟩ := H
  replace H : ((slices_Concat_byte_byte.f (([t116, t122, t125] : List (List Int)))).bind fun t131 => (some t131)) = some r := H
  have A5 := Aside0.mk A50
  clear A50
  obtain ⟨y128, hy128⟩ : ∃ y_ : List (List Int), y_ = (([t116, t122, t125] : List (List Int))) := ⟨_, rfl⟩
  replace H : ((slices_Concat_byte_byte.f y128).bind fun t131 => (some t131)) = some r := by first | (rw [hy128]; with_reducible exact H) | (have H2_ := (Option.bind_some _ _).symm.trans H; rw [hy128]; with_reducible exact H2_) | (have H2_ := (Option.bind_some _ _).symm.trans H; with_reducible exact H2_) | with_reducible exact H | (rw [hy128]; exact H) | exact H
  have Ny128 := Aside0.mk hy128
  clear hy128
  replace H := Option.bind_eq_some_iff.mp H
  obtain ⟨t131, A60, H⟩ := H
  replace H : (some t131) = some r := H
  have A6 := Aside0.mk A60
  clear A60
  obtain rfl := Option.some.inj H
  go_enter Tryd.func72, Tryd.ntmps72
  go_wp2_with (first | ((with_reducible refine gate_callee (f := 85) rfl ?_); refine goesL_ (some 3) rfl rfl Tryd.func85 (by kernel_rfl) rfl #[] rfl (by (try simp only [List.map_toArray, List.map_cons, List.map_nil]); first | done | rfl | (simp only [List.length_drop, List.length_take]; rfl)) ?_; (with_reducible refine (zero_Flag.calls k  t116 _ A2.out).mono ?_); rintro e w7 ⟨v117, rfl, ho0, hb⟩; refine ⟨_, rfl, ?_⟩; have n0_ := Aside0.mk (Kd.R_lower ho0 (below_size (by repeat (first | (with_reducible first | exact HB.out | apply below_alloc | apply pw_below_drewN | apply below_drew1) | exact HB.out)))); have n1_ := Aside0.mk (below_step (by repeat (first | (with_reducible first | exact HB.out | apply below_alloc | apply pw_below_drewN | apply below_drew1) | exact HB.out)) hb); clear HB; have HO118 := n0_; have HB := n1_; clear n0_ n1_; (try clear hb); (try clear hb2); (try clear hk); (try clear hi); (try clear ho0)) | ((with_reducible refine gate_callee (f := 87) rfl ?_); refine goesL_ (some 5) rfl rfl Tryd.func87 (by kernel_rfl) rfl #[.slice A0 l0.length c0] rfl (by (try simp only [List.map_toArray, List.map_cons, List.map_nil]); first | done | rfl | (simp only [List.length_drop, List.length_take]; rfl)) ?_; (with_reducible refine (bits_Of.calls k _ _ l0 t119 _ ?side1 ?side2 A3.out).mono ?_); (case side1 => repeat (first | exact (Kd.C_below HR0.out HB.out) | (with_reducible refine Kd.C_alloc ?_ _) | (with_reducible refine Kd.C_drewN ?_ _) | (with_reducible refine Kd.C_drew ?_))); (case side2 => exact HC0.out); rintro e w8 ⟨v120, rfl, ho0, hb⟩; refine ⟨_, rfl, ?_⟩; have n0_ := Aside0.mk (Kd.R_elder' (by (with_reducible repeat (first | apply Kd.R_alloc | apply Kd.R_drewN | apply Kd.R_drew)); exact HO118.out) (Kd.R_base ho0) hb); have n1_ := Aside0.mk (Kd.R_lower (Kd.R_new' ho0 (Kd.R_lt (by (with_reducible repeat (first | apply Kd.R_alloc | apply Kd.R_drewN | apply Kd.R_drew)); exact HO118.out))) (below_size (by repeat (first | (with_reducible first | exact HB.out | apply below_alloc | apply pw_below_drewN | apply below_drew1) | exact HB.out)))); have n2_ := Aside0.mk (below_step (by repeat (first | (with_reducible first | exact HB.out | apply below_alloc | apply pw_below_drewN | apply below_drew1) | exact HB.out)) hb); clear HO118; clear HB; have HO118 := n0_; have HO121 := n1_; have HB := n2_; clear n0_ n1_ n2_; (try clear hb); (try clear hb2); (try clear hk); (try clear hi); (try clear ho0); obtain ⟨Ao9, co9, eo9⟩ := Kd.R_slice HO121.out; subst eo9) | ((with_reducible refine gate_callee (f := 86) rfl ?_); refine goesL_ (some 6) rfl rfl Tryd.func86 (by kernel_rfl) rfl #[.slice Ao9 t119.length co9] rfl (by (try simp only [List.map_toArray, List.map_cons, List.map_nil]); first | done | rfl | (simp only [List.length_drop, List.length_take]; rfl)) ?_; (with_reducible refine (zero_Insert.calls k _ _ t119 t122 _ ?side1 ?side2 A4.out).mono ?_); (case side1 => repeat (first | exact (Kd.R_reads' HO121.out).2.2 | (with_reducible refine Kd.C_alloc ?_ _) | (with_reducible refine Kd.C_drewN ?_ _) | (with_reducible refine Kd.C_drew ?_))); (case side2 => exact (Kd.R_reads' HO121.out).2.1); rintro e w10 ⟨v123, rfl, ho0, hb⟩; refine ⟨_, rfl, ?_⟩; have n0_ := Aside0.mk (Kd.R_elder' (by (with_reducible repeat (first | apply Kd.R_alloc | apply Kd.R_drewN | apply Kd.R_drew)); exact HO118.out) (Kd.R_base ho0) hb); have n1_ := Aside0.mk (Kd.R_elder' (by (with_reducible repeat (first | apply Kd.R_alloc | apply Kd.R_drewN | apply Kd.R_drew)); exact HO121.out) (Kd.R_base ho0) hb); have n2_ := Aside0.mk (Kd.R_lower (Kd.R_new' (Kd.R_new' ho0 (Kd.R_lt (by (with_reducible repeat (first | apply Kd.R_alloc | apply Kd.R_drewN | apply Kd.R_drew)); exact HO118.out))) (Kd.R_lt (by (with_reducible repeat (first | apply Kd.R_alloc | apply Kd.R_drewN | apply Kd.R_drew)); exact HO121.out))) (below_size (by repeat (first | (with_reducible first | exact HB.out | apply below_alloc | apply pw_below_drewN | apply below_drew1) | exact HB.out)))); have n3_ := Aside0.mk (below_step (by repeat (first | (with_reducible first | exact HB.out | apply below_alloc | apply pw_below_drewN | apply below_drew1) | exact HB.out)) hb); clear HO118; clear HO121; clear HB; have HO118 := n0_; have HO121 := n1_; have HO124 := n2_; have HB := n3_; clear n0_ n1_ n2_ n3_; (try clear hb); (try clear hb2); (try clear hk); (try clear hi); (try clear ho0)) | ((with_reducible refine gate_callee (f := 85) rfl ?_); refine goesL_ (some 7) rfl rfl Tryd.func85 (by kernel_rfl) rfl #[] rfl (by (try simp only [List.map_toArray, List.map_cons, List.map_nil]); first | done | rfl | (simp only [List.length_drop, List.length_take]; rfl)) ?_; (with_reducible refine (zero_Flag.calls k  t125 _ A5.out).mono ?_); rintro e w11 ⟨v126, rfl, ho0, hb⟩; refine ⟨_, rfl, ?_⟩; have n0_ := Aside0.mk (Kd.R_elder' (by (with_reducible repeat (first | apply Kd.R_alloc | apply Kd.R_drewN | apply Kd.R_drew)); exact HO118.out) (Kd.R_base ho0) hb); have n1_ := Aside0.mk (Kd.R_elder' (by (with_reducible repeat (first | apply Kd.R_alloc | apply Kd.R_drewN | apply Kd.R_drew)); exact HO121.out) (Kd.R_base ho0) hb); have n2_ := Aside0.mk (Kd.R_elder' (by (with_reducible repeat (first | apply Kd.R_alloc | apply Kd.R_drewN | apply Kd.R_drew)); exact HO124.out) (Kd.R_base ho0) hb); have n3_ := Aside0.mk (Kd.R_lower (Kd.R_new' (Kd.R_new' (Kd.R_new' ho0 (Kd.R_lt (by (with_reducible repeat (first | apply Kd.R_alloc | apply Kd.R_drewN | apply Kd.R_drew)); exact HO118.out))) (Kd.R_lt (by (with_reducible repeat (first | apply Kd.R_alloc | apply Kd.R_drewN | apply Kd.R_drew)); exact HO121.out))) (Kd.R_lt (by (with_reducible repeat (first | apply Kd.R_alloc | apply Kd.R_drewN | apply Kd.R_drew)); exact HO124.out))) (below_size (by repeat (first | (with_reducible first | exact HB.out | apply below_alloc | apply pw_below_drewN | apply below_drew1) | exact HB.out)))); have n4_ := Aside0.mk (below_step (by repeat (first | (with_reducible first | exact HB.out | apply below_alloc | apply pw_below_drewN | apply below_drew1) | exact HB.out)) hb); clear HO118; clear HO121; clear HO124; clear HB; have HO118 := n0_; have HO121 := n1_; have HO124 := n2_; have HO127 := n3_; have HB := n4_; clear n0_ n1_ n2_ n3_ n4_; (try clear hb); (try clear hb2); (try clear hk); (try clear hi); (try clear ho0); obtain ⟨Ao12, co12, eo12⟩ := Kd.R_slice HO118.out; subst eo12; obtain ⟨Ao13, co13, eo13⟩ := Kd.R_slice HO124.out; subst eo13; obtain ⟨Ao14, co14, eo14⟩ := Kd.R_slice HO127.out; subst eo14) | ((with_reducible refine gate_dst (N := 8) rfl ?_); refine Kd.N_lit (Kd.slice 5 (Kd.int .u8)) _ 35 ?hg (N' := 8) ?hd (xs := ([t116, t122, t125] : List (List Int))) (inner := [.slice Ao12 t116.length co12, .slice Ao13 t122.length co13, .slice Ao14 t125.length co14]) (ok := (fun k_ => some k_ ≠ (.slice Ao9 t119.length co9 : Value).ownBlock)) (okp := (fun k_ => some k_ ≠ (.slice Ao9 t119.length co9 : Value).ownBlock)) ?hr ?hp (fun _ hk => hk) ((show ∀ k_, w11.heap.size ≤ k_ → (fun k_ => some k_ ≠ (.slice Ao9 t119.length co9 : Value).ownBlock) k_ from fun k_ hk => Kd.fresh' (Kd.R_lt (by (with_reducible repeat (first | apply Kd.R_alloc | apply Kd.R_drewN | apply Kd.R_drew)); exact HO121.out)) k_ hk) _ (Nat.le_refl _)) (Below.refl _ _) (Nat.le_refl _) (by simp) ?_; (case hd => rfl); (case hg => rfl); (case hr => first | (go_simp; done) | (go_simp; rfl)); (case hp => exact (Reps.one (show Kd.FK (Kd.slice 5 (Kd.int .u8)) _ _ t116 [.slice Ao12 t116.length co12] from (Kd.FK_slice_mk (Kd.R_reads' (Kd.R_mono (ok' := (fun k_ => some k_ ≠ (.slice Ao9 t119.length co9 : Value).ownBlock)) (HO118.out) (fun k_ hk => hk.1.1.2))).2.1 (Kd.R_F (Kd.R_mono (ok' := (fun k_ => some k_ ≠ (.slice Ao9 t119.length co9 : Value).ownBlock)) (HO118.out) (fun k_ hk => hk.1.1.2))))) (Reps.one (show Kd.FK (Kd.slice 5 (Kd.int .u8)) _ _ t122 [.slice Ao13 t122.length co13] from (Kd.FK_slice_mk (Kd.R_reads' (Kd.R_mono (ok' := (fun k_ => some k_ ≠ (.slice Ao9 t119.length co9 : Value).ownBlock)) (HO124.out) (fun k_ hk => hk.1.2))).2.1 (Kd.R_F (Kd.R_mono (ok' := (fun k_ => some k_ ≠ (.slice Ao9 t119.length co9 : Value).ownBlock)) (HO124.out) (fun k_ hk => hk.1.2))))) (Reps.one (show Kd.FK (Kd.slice 5 (Kd.int .u8)) _ _ t125 [.slice Ao14 t125.length co14] from (Kd.FK_slice_mk (Kd.R_reads' (Kd.R_mono (ok' := (fun k_ => some k_ ≠ (.slice Ao9 t119.length co9 : Value).ownBlock)) (HO127.out) (fun k_ hk => hk.1.2))).2.1 (Kd.R_F (Kd.R_mono (ok' := (fun k_ => some k_ ≠ (.slice Ao9 t119.length co9 : Value).ownBlock)) (HO127.out) (fun k_ hk => hk.1.2))))) (Reps.none _ _))))); intro v129 w15 ho16 hb hg_ hnew_; clear hg_ hnew_; (first | rw [← Ny128.out] at ho16 | (simp only [Int.reduceToNat] at ho16; rw [← Ny128.out] at ho16)); have n0_ := Aside0.mk (Kd.R_below (by (with_reducible repeat (first | apply Kd.R_alloc | apply Kd.R_drewN | apply Kd.R_drew)); exact HO121.out) hb); have n1_ := Aside0.mk (Kd.N_lower ho16 (below_size (by repeat (first | (with_reducible first | exact HB.out | apply below_alloc | apply pw_below_drewN | apply below_drew1) | exact HB.out)))); have n2_ := Aside0.mk (below_step (by repeat (first | (with_reducible first | exact HB.out | apply below_alloc | apply pw_below_drewN | apply below_drew1) | exact HB.out)) hb); clear HO121; clear HB; clear HO118; clear HO124; clear HO127; have HO121 := n0_; have HO130 := n1_; have HB := n2_; clear n0_ n1_ n2_; clear hb ho16; obtain ⟨Ao17, co17, eo17⟩ := Kd.N_slice HO130.out; subst eo17) | ((with_reducible refine gate_callee (f := 70) rfl ?_); refine goesL_ (some 9) rfl rfl Tryd.func70 (by kernel_rfl) rfl #[.slice Ao17 y128.length co17] rfl (by (try simp only [List.map_toArray, List.map_cons, List.map_nil]); first | done | rfl | (simp only [List.length_drop, List.length_take]; rfl)) ?_; (with_reducible refine (slices_Concat_byte_byte.calls _ _ y128 t131 _ ?side1 ?side2 A6.out).mono ?_); (case side1 => repeat (first | exact (Kd.N_reads' HO130.out).2.2 | (with_reducible refine Kd.C_alloc ?_ _) | (with_reducible refine Kd.C_drewN ?_ _) | (with_reducible refine Kd.C_drew ?_))); (case side2 => exact (Kd.N_reads' HO130.out).2.1); rintro e w18 ⟨v132, rfl, ho0, hb⟩; refine ⟨_, rfl, ?_⟩; have n0_ := Aside0.mk (Kd.R_elder' (by (with_reducible repeat (first | apply Kd.R_alloc | apply Kd.R_drewN | apply Kd.R_drew)); exact HO121.out) (Kd.R_base ho0) hb); have n1_ := Aside0.mk (Kd.N_elder' (by (with_reducible repeat (first | apply Kd.N_alloc | apply Kd.N_drewN | apply Kd.N_drew)); exact HO130.out) (Kd.R_base ho0) hb); have n2_ := Aside0.mk (Kd.R_lower (Kd.R_new' ho0 (Kd.R_lt (by (with_reducible repeat (first | apply Kd.R_alloc | apply Kd.R_drewN | apply Kd.R_drew)); exact HO121.out))) (below_size (by repeat (first | (with_reducible first | exact HB.out | apply below_alloc | apply pw_below_drewN | apply below_drew1) | exact HB.out)))); have n3_ := Aside0.mk (below_step (by repeat (first | (with_reducible first | exact HB.out | apply below_alloc | apply pw_below_drewN | apply below_drew1) | exact HB.out)) hb); clear HO121; clear HO130; clear HB; have HO121 := n0_; have HO130 := n1_; have HO133 := n2_; have HB := n3_; clear n0_ n1_ n2_ n3_; (try clear hb); (try clear hb2); (try clear hk); (try clear hi); (try clear ho0)))
  go_ret
  exact ⟨_, by first | rfl | (simp [errW_none, errW_some] <;> rfl) | (simp [*, errW_none, errW_some] <;> rfl), by (with_reducible repeat (first | apply Kd.R_alloc | apply Kd.R_drewN | apply Kd.R_drew)); exact Kd.R_mono HO133.out (fun _ hk => trivial), by repeat (first | (with_reducible first | exact HB.out | apply below_alloc | apply pw_below_drewN | apply below_drew1) | exact HB.out)⟩
end Go.Proofs.YtggpejjfgphihaaDoor.Y
end

section
namespace Go.Proofs.YtggpejjfgphihaaDoor.V
open Go.Proofs.YtggpejjfgphihaaDoor.Given Go.Proofs.YtggpejjfgphihaaDoor.H Go.Proofs.YtggpejjfgphihaaDoor.Y Go.RowKit Go.Proofs.YtggpejjfgphihaaDoorW.PrintWords Go.Proofs.YtggpejjfgphihaaDoorW.PrintLast Go.Proofs.YtggpejjfgphihaaDoorW.PrintMore
attribute [local go_sem] max2_int min2_int max_two min_two max_three min_three max_four min_four
set_option linter.unusedVariables false
set_option linter.unusedSimpArgs false
def errW : Option Int → Value
  | none => .nilIface
  | some c => .iface 0 (.int .i64 c)
theorem errW_none : errW none = .nilIface := rfl
theorem errW_some (c : Int) : errW (some c) = .iface 0 (.int .i64 c) := rfl
end Go.Proofs.YtggpejjfgphihaaDoor.V
end

section
namespace Go.Proofs.YtggpejjfgphihaaDoor.V
open Go.Proofs.YtggpejjfgphihaaDoor.Given Go.Proofs.YtggpejjfgphihaaDoor.H Go.Proofs.YtggpejjfgphihaaDoor.Y Go.RowKit Go.Proofs.YtggpejjfgphihaaDoorW.PrintWords Go.Proofs.YtggpejjfgphihaaDoorW.PrintLast Go.Proofs.YtggpejjfgphihaaDoorW.PrintMore
attribute [local go_sem] max2_int min2_int max_two min_two max_three min_three max_four min_four
set_option linter.unusedVariables false
set_option linter.unusedSimpArgs false
def frame_Wire.f (k : Nat) (a0_0 : Bool) (a0_1 : Bool) (a0_2 : Bool) (a0_3 : Bool) (a0_4 : Int) (a0_5 : Int) (a0_6 : Int) (a1 : Int) (l2 : List Int) : Option (List Int × Int) := (frame_Build.f k a0_0 a0_1 a0_2 a0_3 a0_4 a0_5 a0_6 a1 l2).bind fun bt102 => (if bt102.2 = 0 then (if a0_0 = true then ((sync_Wrap.f k bt102.1).bind fun t106 => (some (t106, 0))) else ((async_Wrap.f k a0_4 bt102.1).bind fun t109 => (some (t109, 0)))) else (some (([] : List Int), bt102.2)))
set_option maxHeartbeats 8000000 in
set_option maxRecDepth 100000 in
theorem frame_Wire.calls (k : Nat) (a0_0 : Bool) (a0_1 : Bool) (a0_2 : Bool) (a0_3 : Bool) (a0_4 : Int) (a0_5 : Int) (a0_6 : Int) (a1 : Int) (A2 : Option Addr) (c2 : Nat) (l2 : List Int) (r1 : List Int) (r2 : Int) (w : World) (hr2 : Kd.C (Kd.int .u8) w A2 l2.length l2) (hc2 : l2.length ≤ c2) (hgF : GF w) (hgH : GH w) (h : frame_Wire.f k a0_0 a0_1 a0_2 a0_3 a0_4 a0_5 a0_6 a1 l2 = some (r1, r2)) :
    Calls Tryd.prog 51 #[.agg #[.bool a0_0, .bool a0_1, .bool a0_2, .bool a0_3, .int .u32 a0_4, .int .u32 a0_5, .int .i64 a0_6], .int .u16 a1, .slice A2 l2.length c2] w fun e w' => ∃ v0_ : Value, e = .returned (.tuple #[v0_, .int .i64 r2]) ∧ Kd.R (Kd.int .u8) 5 w' w.heap.size (fun _ => True) v0_ r1 ∧ Below w.heap.size w w' := by
  have hu26 := Tryd.underlying26
  have HGF := Aside0.mk hgF
  clear hgF
  have HGH := Aside0.mk hgH
  clear hgH
  have HR2 := Aside0.mk hr2
  have HC2 := Aside0.mk hc2
  clear hr2 hc2
  have HB := Aside0.mk (Below.refl w.heap.size w)
  have H : ((frame_Build.f k a0_0 a0_1 a0_2 a0_3 a0_4 a0_5 a0_6 a1 l2).bind fun bt102 => (if bt102.2 = 0 then (if a0_0 = true then ((sync_Wrap.f k bt102.1).bind fun t106 => (some (t106, 0))) else ((async_Wrap.f k a0_4 bt102.1).bind fun t109 => (some (t109, 0)))) else (some (([] : List Int), bt102.2)))) = some (r1, r2) := h
  clear h
  replace H := Option.bind_eq_some_iff.mp H
  obtain ⟨⟨t102, t105⟩, A40, H⟩ := H
  replace H : (if t105 = 0 then (if a0_0 = true then ((sync_Wrap.f k t102).bind fun t106 => (some (t106, 0))) else ((async_Wrap.f k a0_4 t102).bind fun t109 => (some (t109, 0)))) else (some (([] : List Int), t105))) = some (r1, r2) := H
  have A4 := Aside0.mk A40
  clear A40
  by_cases c5 : t105 = 0
  · rw [if_pos c5] at H
    have c5b0 : (t105 == 0) = true := beq_iff_eq.mpr c5
    have c5b1 : (t105 != 0) = false := bne_eq_false_iff_eq.mpr c5
    clear c5
    by_cases c6 : a0_0 = true
    · subst c6
      have H1 : ((sync_Wrap.f k t102).bind fun t106 => (some (t106, 0))) = some (r1, r2) := by rw [if_pos rfl] at H; exact H
      clear H
      have H := H1
      clear H1
      replace H := Option.bind_eq_some_iff.mp H
      obtain ⟨t106, A70, H⟩ := H
      replace H : (some (t106, 0)) = some (r1, r2) := H
      have A7 := Aside0.mk A70
      clear A70
      simp only [Option.some.injEq, Prod.mk.injEq] at H
      obtain ⟨rfl, rfl⟩ := H
      go_enter Tryd.func51, Tryd.ntmps51
      go_wp2_with (first | ((with_reducible refine gate_dst (N := 3) rfl ?_); refine box_event ?hg (N := 3) ?hd (cs := #[.bool true, .bool a0_1, .bool a0_2, .bool a0_3, .int .u32 a0_4, .int .u32 a0_5, .int .i64 a0_6]) (t := 26) ?hr ?_; (case hd => rfl); (case hg => rfl); (case hr => first | (go_simp; done) | (go_simp; rfl)); intro gb101 hg w8 hbox hb; have n0_ := Aside0.mk (below_step (by repeat (first | (with_reducible first | exact HB.out | apply below_alloc | apply pw_below_drewN | apply below_drew1) | exact HB.out)) hb); have n1_ := Aside0.mk (hbox); have n2_ := Aside0.mk ((by rw [hg]; exact (below_size (by repeat (first | (with_reducible first | exact HB.out | apply below_alloc | apply pw_below_drewN | apply below_drew1) | exact HB.out))) : w.heap.size ≤ gb101)); have n3_ := Aside0.mk ((by rw [hg]; exact (below_size (by repeat (first | (with_reducible first | exact HB.out | apply below_alloc | apply pw_below_drewN | apply below_drew1) | exact HB.out))) : w.heap.size ≤ gb101)); clear HB; have HB := n0_; have BK101 := n1_; have GW101 := n2_; have GE101 := n3_; clear n0_ n1_ n2_ n3_; clear hb hbox hg; have hcz9_0 : w8.cell? ⟨gb101, 0, none⟩ = some (.bool true) := (blk_cell BK101.out 0).trans rfl; have hcz9_1 : w8.cell? ⟨gb101, 1, none⟩ = some (.bool a0_1) := (blk_cell BK101.out 1).trans rfl; have hcz9_2 : w8.cell? ⟨gb101, 2, none⟩ = some (.bool a0_2) := (blk_cell BK101.out 2).trans rfl; have hcz9_3 : w8.cell? ⟨gb101, 3, none⟩ = some (.bool a0_3) := (blk_cell BK101.out 3).trans rfl; have hcz9_4 : w8.cell? ⟨gb101, 4, none⟩ = some (.int .u32 a0_4) := (blk_cell BK101.out 4).trans rfl; have hcz9_5 : w8.cell? ⟨gb101, 5, none⟩ = some (.int .u32 a0_5) := (blk_cell BK101.out 5).trans rfl; have hcz9_6 : w8.cell? ⟨gb101, 6, none⟩ = some (.int .i64 a0_6) := (blk_cell BK101.out 6).trans rfl; have hfz9_0 := blk_frozen BK101.out 0; have hfz9_1 := blk_frozen BK101.out 1; have hfz9_2 := blk_frozen BK101.out 2; have hfz9_3 := blk_frozen BK101.out 3; have hfz9_4 := blk_frozen BK101.out 4; have hfz9_5 := blk_frozen BK101.out 5; have hfz9_6 := blk_frozen BK101.out 6) | ((with_reducible refine gate_callee (f := 48) rfl ?_); refine goesL_ (some 14) rfl rfl Tryd.func48 (by kernel_rfl) rfl #[.agg #[.bool true, .bool a0_1, .bool a0_2, .bool a0_3, .int .u32 a0_4, .int .u32 a0_5, .int .i64 a0_6], .int .u16 a1, .slice A2 l2.length c2] rfl (by (try simp only [List.map_toArray, List.map_cons, List.map_nil]); first | done | rfl | (simp only [List.length_drop, List.length_take]; rfl)) ?_; (with_reducible refine (frame_Build.calls k true a0_1 a0_2 a0_3 a0_4 a0_5 a0_6 a1 _ _ l2 t102 t105 _ ?side1 ?side2 ?side3 ?side4 A4.out).mono ?_); (case side1 => repeat (first | exact (Kd.C_below HR2.out HB.out) | (with_reducible refine Kd.C_alloc ?_ _) | (with_reducible refine Kd.C_drewN ?_ _) | (with_reducible refine Kd.C_drew ?_))); (case side2 => exact HC2.out); (case side3 => repeat (first | exact (GF_below HGF.out HB.out) | (with_reducible refine GF_alloc ?_ _) | (with_reducible refine GF_drewN ?_ _) | (with_reducible refine GF_drew ?_))); (case side4 => repeat (first | exact (GH_below HGH.out HB.out) | (with_reducible refine GH_alloc ?_ _) | (with_reducible refine GH_drewN ?_ _) | (with_reducible refine GH_drew ?_))); rintro e w10 ⟨v103, rfl, ho0, hb⟩; refine ⟨_, rfl, ?_⟩; have n0_ := Aside0.mk (Kd.R_lower ho0 (below_size (by repeat (first | (with_reducible first | exact HB.out | apply below_alloc | apply pw_below_drewN | apply below_drew1 | refine below_set ?_ GE101.out) | exact HB.out)))); have n1_ := Aside0.mk (blk_below (g := gb101) (o := .cells #[.bool true, .bool a0_1, .bool a0_2, .bool a0_3, .int .u32 a0_4, .int .u32 a0_5, .int .i64 a0_6] 26 (0, 0)) (by (with_reducible repeat (first | refine blk_drewN ?_ _ | refine blk_drew ?_ | refine blk_alloc ?_ _)); exact BK101.out) hb); have n2_ := Aside0.mk (below_step (by repeat (first | (with_reducible first | exact HB.out | apply below_alloc | apply pw_below_drewN | apply below_drew1 | refine below_set ?_ GE101.out) | exact HB.out)) hb); clear BK101; clear HB; have HO104 := n0_; have BK101 := n1_; have HB := n2_; clear n0_ n1_ n2_; (try clear hb); (try clear hb2); (try clear hk); (try clear hi); (try clear ho0); have hcz11_0 : w10.cell? ⟨gb101, 0, none⟩ = some (.bool true) := (blk_cell BK101.out 0).trans rfl; have hcz11_1 : w10.cell? ⟨gb101, 1, none⟩ = some (.bool a0_1) := (blk_cell BK101.out 1).trans rfl; have hcz11_2 : w10.cell? ⟨gb101, 2, none⟩ = some (.bool a0_2) := (blk_cell BK101.out 2).trans rfl; have hcz11_3 : w10.cell? ⟨gb101, 3, none⟩ = some (.bool a0_3) := (blk_cell BK101.out 3).trans rfl; have hcz11_4 : w10.cell? ⟨gb101, 4, none⟩ = some (.int .u32 a0_4) := (blk_cell BK101.out 4).trans rfl; have hcz11_5 : w10.cell? ⟨gb101, 5, none⟩ = some (.int .u32 a0_5) := (blk_cell BK101.out 5).trans rfl; have hcz11_6 : w10.cell? ⟨gb101, 6, none⟩ = some (.int .i64 a0_6) := (blk_cell BK101.out 6).trans rfl; have hfz11_0 := blk_frozen BK101.out 0; have hfz11_1 := blk_frozen BK101.out 1; have hfz11_2 := blk_frozen BK101.out 2; have hfz11_3 := blk_frozen BK101.out 3; have hfz11_4 := blk_frozen BK101.out 4; have hfz11_5 := blk_frozen BK101.out 5; have hfz11_6 := blk_frozen BK101.out 6; obtain ⟨Ao12, co12, eo12⟩ := Kd.R_slice HO104.out; subst eo12) | ((with_reducible refine gate_callee (f := 72) rfl ?_); refine goesL_ (some 25) rfl rfl Tryd.func72 (by kernel_rfl) rfl #[.slice Ao12 t102.length co12] rfl (by (try simp only [List.map_toArray, List.map_cons, List.map_nil]); first | done | rfl | (simp only [List.length_drop, List.length_take]; rfl)) ?_; (with_reducible refine (sync_Wrap.calls k _ _ t102 t106 _ ?side1 ?side2 A7.out).mono ?_); (case side1 => repeat (first | exact (Kd.R_reads' HO104.out).2.2 | (with_reducible refine Kd.C_alloc ?_ _) | (with_reducible refine Kd.C_drewN ?_ _) | (with_reducible refine Kd.C_drew ?_))); (case side2 => exact (Kd.R_reads' HO104.out).2.1); rintro e w13 ⟨v107, rfl, ho0, hb⟩; refine ⟨_, rfl, ?_⟩; have n0_ := Aside0.mk (Kd.R_elder' (by (with_reducible repeat (first | apply Kd.R_alloc | apply Kd.R_drewN | apply Kd.R_drew)); exact HO104.out) (Kd.R_base ho0) hb); have n1_ := Aside0.mk (Kd.R_lower (Kd.R_new' ho0 (Kd.R_lt (by (with_reducible repeat (first | apply Kd.R_alloc | apply Kd.R_drewN | apply Kd.R_drew)); exact HO104.out))) (below_size (by repeat (first | (with_reducible first | exact HB.out | apply below_alloc | apply pw_below_drewN | apply below_drew1 | refine below_set ?_ GE101.out) | exact HB.out)))); have n2_ := Aside0.mk (blk_below (g := gb101) (o := .cells #[.bool true, .bool a0_1, .bool a0_2, .bool a0_3, .int .u32 a0_4, .int .u32 a0_5, .int .i64 a0_6] 26 (0, 0)) (by (with_reducible repeat (first | refine blk_drewN ?_ _ | refine blk_drew ?_ | refine blk_alloc ?_ _)); exact BK101.out) hb); have n3_ := Aside0.mk (below_step (by repeat (first | (with_reducible first | exact HB.out | apply below_alloc | apply pw_below_drewN | apply below_drew1 | refine below_set ?_ GE101.out) | exact HB.out)) hb); clear HO104; clear BK101; clear HB; have HO104 := n0_; have HO108 := n1_; have BK101 := n2_; have HB := n3_; clear n0_ n1_ n2_ n3_; (try clear hb); (try clear hb2); (try clear hk); (try clear hi); (try clear ho0)))
      go_ret2
      exact ⟨_, by first | rfl | (simp [errW_none, errW_some] <;> rfl) | (simp [*, errW_none, errW_some] <;> rfl), by (with_reducible repeat (first | apply Kd.R_alloc | apply Kd.R_drewN | apply Kd.R_drew)); exact Kd.R_mono HO108.out (fun _ hk => trivial), by repeat (first | (with_reducible first | exact HB.out | apply below_alloc | apply pw_below_drewN | apply below_drew1 | refine below_set ?_ GE101.out) | exact HB.out)⟩
    · replace c6 := Bool.eq_false_iff.mpr c6
      subst c6
      have H1 : ((async_Wrap.f k a0_4 t102).bind fun t109 => (some (t109, 0))) = some (r1, r2) := by rw [if_neg (show ¬ (false = true) by decide)] at H; exact H
      clear H
      have H := H1
      clear H1
      replace H := Option.bind_eq_some_iff.mp H
      obtain ⟨t109, A140, H⟩ := H
      replace H : (some (t109, 0)) = some (r1, r2) := H
      have A14 := Aside0.mk A140
      clear A140
      simp only [Option.some.injEq, Prod.mk.injEq] at H
      obtain ⟨rfl, rfl⟩ := H
      go_enter Tryd.func51, Tryd.ntmps51
      go_wp2_with (first | ((with_reducible refine gate_dst (N := 3) rfl ?_); refine box_event ?hg (N := 3) ?hd (cs := #[.bool false, .bool a0_1, .bool a0_2, .bool a0_3, .int .u32 a0_4, .int .u32 a0_5, .int .i64 a0_6]) (t := 26) ?hr ?_; (case hd => rfl); (case hg => rfl); (case hr => first | (go_simp; done) | (go_simp; rfl)); intro gb101 hg w15 hbox hb; have n0_ := Aside0.mk (below_step (by repeat (first | (with_reducible first | exact HB.out | apply below_alloc | apply pw_below_drewN | apply below_drew1) | exact HB.out)) hb); have n1_ := Aside0.mk (hbox); have n2_ := Aside0.mk ((by rw [hg]; exact (below_size (by repeat (first | (with_reducible first | exact HB.out | apply below_alloc | apply pw_below_drewN | apply below_drew1) | exact HB.out))) : w.heap.size ≤ gb101)); have n3_ := Aside0.mk ((by rw [hg]; exact (below_size (by repeat (first | (with_reducible first | exact HB.out | apply below_alloc | apply pw_below_drewN | apply below_drew1) | exact HB.out))) : w.heap.size ≤ gb101)); clear HB; have HB := n0_; have BK101 := n1_; have GW101 := n2_; have GE101 := n3_; clear n0_ n1_ n2_ n3_; clear hb hbox hg; have hcz16_0 : w15.cell? ⟨gb101, 0, none⟩ = some (.bool false) := (blk_cell BK101.out 0).trans rfl; have hcz16_1 : w15.cell? ⟨gb101, 1, none⟩ = some (.bool a0_1) := (blk_cell BK101.out 1).trans rfl; have hcz16_2 : w15.cell? ⟨gb101, 2, none⟩ = some (.bool a0_2) := (blk_cell BK101.out 2).trans rfl; have hcz16_3 : w15.cell? ⟨gb101, 3, none⟩ = some (.bool a0_3) := (blk_cell BK101.out 3).trans rfl; have hcz16_4 : w15.cell? ⟨gb101, 4, none⟩ = some (.int .u32 a0_4) := (blk_cell BK101.out 4).trans rfl; have hcz16_5 : w15.cell? ⟨gb101, 5, none⟩ = some (.int .u32 a0_5) := (blk_cell BK101.out 5).trans rfl; have hcz16_6 : w15.cell? ⟨gb101, 6, none⟩ = some (.int .i64 a0_6) := (blk_cell BK101.out 6).trans rfl; have hfz16_0 := blk_frozen BK101.out 0; have hfz16_1 := blk_frozen BK101.out 1; have hfz16_2 := blk_frozen BK101.out 2; have hfz16_3 := blk_frozen BK101.out 3; have hfz16_4 := blk_frozen BK101.out 4; have hfz16_5 := blk_frozen BK101.out 5; have hfz16_6 := blk_frozen BK101.out 6) | ((with_reducible refine gate_callee (f := 48) rfl ?_); refine goesL_ (some 14) rfl rfl Tryd.func48 (by kernel_rfl) rfl #[.agg #[.bool false, .bool a0_1, .bool a0_2, .bool a0_3, .int .u32 a0_4, .int .u32 a0_5, .int .i64 a0_6], .int .u16 a1, .slice A2 l2.length c2] rfl (by (try simp only [List.map_toArray, List.map_cons, List.map_nil]); first | done | rfl | (simp only [List.length_drop, List.length_take]; rfl)) ?_; (with_reducible refine (frame_Build.calls k false a0_1 a0_2 a0_3 a0_4 a0_5 a0_6 a1 _ _ l2 t102 t105 _ ?side1 ?side2 ?side3 ?side4 A4.out).mono ?_); (case side1 => repeat (first | exact (Kd.C_below HR2.out HB.out) | (with_reducible refine Kd.C_alloc ?_ _) | (with_reducible refine Kd.C_drewN ?_ _) | (with_reducible refine Kd.C_drew ?_))); (case side2 => exact HC2.out); (case side3 => repeat (first | exact (GF_below HGF.out HB.out) | (with_reducible refine GF_alloc ?_ _) | (with_reducible refine GF_drewN ?_ _) | (with_reducible refine GF_drew ?_))); (case side4 => repeat (first | exact (GH_below HGH.out HB.out) | (with_reducible refine GH_alloc ?_ _) | (with_reducible refine GH_drewN ?_ _) | (with_reducible refine GH_drew ?_))); rintro e w17 ⟨v103, rfl, ho0, hb⟩; refine ⟨_, rfl, ?_⟩; have n0_ := Aside0.mk (Kd.R_lower ho0 (below_size (by repeat (first | (with_reducible first | exact HB.out | apply below_alloc | apply pw_below_drewN | apply below_drew1 | refine below_set ?_ GE101.out) | exact HB.out)))); have n1_ := Aside0.mk (blk_below (g := gb101) (o := .cells #[.bool false, .bool a0_1, .bool a0_2, .bool a0_3, .int .u32 a0_4, .int .u32 a0_5, .int .i64 a0_6] 26 (0, 0)) (by (with_reducible repeat (first | refine blk_drewN ?_ _ | refine blk_drew ?_ | refine blk_alloc ?_ _)); exact BK101.out) hb); have n2_ := Aside0.mk (below_step (by repeat (first | (with_reducible first | exact HB.out | apply below_alloc | apply pw_below_drewN | apply below_drew1 | refine below_set ?_ GE101.out) | exact HB.out)) hb); clear BK101; clear HB; have HO104 := n0_; have BK101 := n1_; have HB := n2_; clear n0_ n1_ n2_; (try clear hb); (try clear hb2); (try clear hk); (try clear hi); (try clear ho0); have hcz18_0 : w17.cell? ⟨gb101, 0, none⟩ = some (.bool false) := (blk_cell BK101.out 0).trans rfl; have hcz18_1 : w17.cell? ⟨gb101, 1, none⟩ = some (.bool a0_1) := (blk_cell BK101.out 1).trans rfl; have hcz18_2 : w17.cell? ⟨gb101, 2, none⟩ = some (.bool a0_2) := (blk_cell BK101.out 2).trans rfl; have hcz18_3 : w17.cell? ⟨gb101, 3, none⟩ = some (.bool a0_3) := (blk_cell BK101.out 3).trans rfl; have hcz18_4 : w17.cell? ⟨gb101, 4, none⟩ = some (.int .u32 a0_4) := (blk_cell BK101.out 4).trans rfl; have hcz18_5 : w17.cell? ⟨gb101, 5, none⟩ = some (.int .u32 a0_5) := (blk_cell BK101.out 5).trans rfl; have hcz18_6 : w17.cell? ⟨gb101, 6, none⟩ = some (.int .i64 a0_6) := (blk_cell BK101.out 6).trans rfl; have hfz18_0 := blk_frozen BK101.out 0; have hfz18_1 := blk_frozen BK101.out 1; have hfz18_2 := blk_frozen BK101.out 2; have hfz18_3 := blk_frozen BK101.out 3; have hfz18_4 := blk_frozen BK101.out 4; have hfz18_5 := blk_frozen BK101.out 5; have hfz18_6 := blk_frozen BK101.out 6; obtain ⟨Ao19, co19, eo19⟩ := Kd.R_slice HO104.out; subst eo19) | ((with_reducible refine gate_callee (f := 73) rfl ?_); refine goesL_ (some 29) rfl rfl Tryd.func73 (by kernel_rfl) rfl #[.int .u32 a0_4, .slice Ao19 t102.length co19] rfl (by (try simp only [List.map_toArray, List.map_cons, List.map_nil]); first | done | rfl | (simp only [List.length_drop, List.length_take]; rfl)) ?_; (with_reducible refine (async_Wrap.calls k a0_4 _ _ t102 t109 _ ?side1 ?side2 A14.out).mono ?_); (case side1 => repeat (first | exact (Kd.R_reads' HO104.out).2.2 | (with_reducible refine Kd.C_alloc ?_ _) | (with_reducible refine Kd.C_drewN ?_ _) | (with_reducible refine Kd.C_drew ?_))); (case side2 => exact (Kd.R_reads' HO104.out).2.1); rintro e w20 ⟨v110, rfl, ho0, hb⟩; refine ⟨_, rfl, ?_⟩; have n0_ := Aside0.mk (Kd.R_elder' (by (with_reducible repeat (first | apply Kd.R_alloc | apply Kd.R_drewN | apply Kd.R_drew)); exact HO104.out) (Kd.R_base ho0) hb); have n1_ := Aside0.mk (Kd.R_lower (Kd.R_new' ho0 (Kd.R_lt (by (with_reducible repeat (first | apply Kd.R_alloc | apply Kd.R_drewN | apply Kd.R_drew)); exact HO104.out))) (below_size (by repeat (first | (with_reducible first | exact HB.out | apply below_alloc | apply pw_below_drewN | apply below_drew1 | refine below_set ?_ GE101.out) | exact HB.out)))); have n2_ := Aside0.mk (blk_below (g := gb101) (o := .cells #[.bool false, .bool a0_1, .bool a0_2, .bool a0_3, .int .u32 a0_4, .int .u32 a0_5, .int .i64 a0_6] 26 (0, 0)) (by (with_reducible repeat (first | refine blk_drewN ?_ _ | refine blk_drew ?_ | refine blk_alloc ?_ _)); exact BK101.out) hb); have n3_ := Aside0.mk (below_step (by repeat (first | (with_reducible first | exact HB.out | apply below_alloc | apply pw_below_drewN | apply below_drew1 | refine below_set ?_ GE101.out) | exact HB.out)) hb); clear HO104; clear BK101; clear HB; have HO104 := n0_; have HO111 := n1_; have BK101 := n2_; have HB := n3_; clear n0_ n1_ n2_ n3_; (try clear hb); (try clear hb2); (try clear hk); (try clear hi); (try clear ho0)))
      go_ret2
      exact ⟨_, by first | rfl | (simp [errW_none, errW_some] <;> rfl) | (simp [*, errW_none, errW_some] <;> rfl), by (with_reducible repeat (first | apply Kd.R_alloc | apply Kd.R_drewN | apply Kd.R_drew)); exact Kd.R_mono HO111.out (fun _ hk => trivial), by repeat (first | (with_reducible first | exact HB.out | apply below_alloc | apply pw_below_drewN | apply below_drew1 | refine below_set ?_ GE101.out) | exact HB.out)⟩
  · rw [if_neg c5] at H
    have c5b0 : (t105 == 0) = false := beq_eq_false_iff_ne.mpr c5
    have c5b1 : (t105 != 0) = true := bne_iff_ne.mpr c5
    simp only [Option.some.injEq, Prod.mk.injEq] at H
    obtain ⟨rfl, rfl⟩ := H
    go_enter Tryd.func51, Tryd.ntmps51
    go_wp2_with (first | ((with_reducible refine gate_dst (N := 3) rfl ?_); refine box_event ?hg (N := 3) ?hd (cs := #[.bool a0_0, .bool a0_1, .bool a0_2, .bool a0_3, .int .u32 a0_4, .int .u32 a0_5, .int .i64 a0_6]) (t := 26) ?hr ?_; (case hd => rfl); (case hg => rfl); (case hr => first | (go_simp; done) | (go_simp; rfl)); intro gb101 hg w21 hbox hb; have n0_ := Aside0.mk (below_step (by repeat (first | (with_reducible first | exact HB.out | apply below_alloc | apply pw_below_drewN | apply below_drew1) | exact HB.out)) hb); have n1_ := Aside0.mk (hbox); have n2_ := Aside0.mk ((by rw [hg]; exact (below_size (by repeat (first | (with_reducible first | exact HB.out | apply below_alloc | apply pw_below_drewN | apply below_drew1) | exact HB.out))) : w.heap.size ≤ gb101)); have n3_ := Aside0.mk ((by rw [hg]; exact (below_size (by repeat (first | (with_reducible first | exact HB.out | apply below_alloc | apply pw_below_drewN | apply below_drew1) | exact HB.out))) : w.heap.size ≤ gb101)); clear HB; have HB := n0_; have BK101 := n1_; have GW101 := n2_; have GE101 := n3_; clear n0_ n1_ n2_ n3_; clear hb hbox hg; have hcz22_0 : w21.cell? ⟨gb101, 0, none⟩ = some (.bool a0_0) := (blk_cell BK101.out 0).trans rfl; have hcz22_1 : w21.cell? ⟨gb101, 1, none⟩ = some (.bool a0_1) := (blk_cell BK101.out 1).trans rfl; have hcz22_2 : w21.cell? ⟨gb101, 2, none⟩ = some (.bool a0_2) := (blk_cell BK101.out 2).trans rfl; have hcz22_3 : w21.cell? ⟨gb101, 3, none⟩ = some (.bool a0_3) := (blk_cell BK101.out 3).trans rfl; have hcz22_4 : w21.cell? ⟨gb101, 4, none⟩ = some (.int .u32 a0_4) := (blk_cell BK101.out 4).trans rfl; have hcz22_5 : w21.cell? ⟨gb101, 5, none⟩ = some (.int .u32 a0_5) := (blk_cell BK101.out 5).trans rfl; have hcz22_6 : w21.cell? ⟨gb101, 6, none⟩ = some (.int .i64 a0_6) := (blk_cell BK101.out 6).trans rfl; have hfz22_0 := blk_frozen BK101.out 0; have hfz22_1 := blk_frozen BK101.out 1; have hfz22_2 := blk_frozen BK101.out 2; have hfz22_3 := blk_frozen BK101.out 3; have hfz22_4 := blk_frozen BK101.out 4; have hfz22_5 := blk_frozen BK101.out 5; have hfz22_6 := blk_frozen BK101.out 6) | ((with_reducible refine gate_callee (f := 48) rfl ?_); refine goesL_ (some 14) rfl rfl Tryd.func48 (by kernel_rfl) rfl #[.agg #[.bool a0_0, .bool a0_1, .bool a0_2, .bool a0_3, .int .u32 a0_4, .int .u32 a0_5, .int .i64 a0_6], .int .u16 a1, .slice A2 l2.length c2] rfl (by (try simp only [List.map_toArray, List.map_cons, List.map_nil]); first | done | rfl | (simp only [List.length_drop, List.length_take]; rfl)) ?_; (with_reducible refine (frame_Build.calls k a0_0 a0_1 a0_2 a0_3 a0_4 a0_5 a0_6 a1 _ _ l2 t102 t105 _ ?side1 ?side2 ?side3 ?side4 A4.out).mono ?_); (case side1 => repeat (first | exact (Kd.C_below HR2.out HB.out) | (with_reducible refine Kd.C_alloc ?_ _) | (with_reducible refine Kd.C_drewN ?_ _) | (with_reducible refine Kd.C_drew ?_))); (case side2 => exact HC2.out); (case side3 => repeat (first | exact (GF_below HGF.out HB.out) | (with_reducible refine GF_alloc ?_ _) | (with_reducible refine GF_drewN ?_ _) | (with_reducible refine GF_drew ?_))); (case side4 => repeat (first | exact (GH_below HGH.out HB.out) | (with_reducible refine GH_alloc ?_ _) | (with_reducible refine GH_drewN ?_ _) | (with_reducible refine GH_drew ?_))); rintro e w23 ⟨v103, rfl, ho0, hb⟩; refine ⟨_, rfl, ?_⟩; have n0_ := Aside0.mk (Kd.R_lower ho0 (below_size (by repeat (first | (with_reducible first | exact HB.out | apply below_alloc | apply pw_below_drewN | apply below_drew1 | refine below_set ?_ GE101.out) | exact HB.out)))); have n1_ := Aside0.mk (blk_below (g := gb101) (o := .cells #[.bool a0_0, .bool a0_1, .bool a0_2, .bool a0_3, .int .u32 a0_4, .int .u32 a0_5, .int .i64 a0_6] 26 (0, 0)) (by (with_reducible repeat (first | refine blk_drewN ?_ _ | refine blk_drew ?_ | refine blk_alloc ?_ _)); exact BK101.out) hb); have n2_ := Aside0.mk (below_step (by repeat (first | (with_reducible first | exact HB.out | apply below_alloc | apply pw_below_drewN | apply below_drew1 | refine below_set ?_ GE101.out) | exact HB.out)) hb); clear BK101; clear HB; have HO104 := n0_; have BK101 := n1_; have HB := n2_; clear n0_ n1_ n2_; (try clear hb); (try clear hb2); (try clear hk); (try clear hi); (try clear ho0)))
    go_ret2
    exact ⟨_, by first | rfl | (simp [errW_none, errW_some] <;> rfl) | (simp [*, errW_none, errW_some] <;> rfl), by first | exact Kd.R_nil _ _ _ _ _ | exact Kd.N_nil _ _ _ _ _ | exact Kd.V_nil _ _ _ _ _ | exact Kd.Q_nil _ _ _ _ _ | exact Kd.S_nil _ _ _ _ _, by repeat (first | (with_reducible first | exact HB.out | apply below_alloc | apply pw_below_drewN | apply below_drew1 | refine below_set ?_ GE101.out) | exact HB.out)⟩
end Go.Proofs.YtggpejjfgphihaaDoor.V
end

section
namespace Go.Proofs.YtggpejjfgphihaaDoor.Pu
open Go.RowKit Go.Proofs.YtggpejjfgphihaaDoorW.PrintWords Go.Proofs.YtggpejjfgphihaaDoorW.PrintLast Go.Proofs.YtggpejjfgphihaaDoorW.PrintMore
open Go.Proofs.YtggpejjfgphihaaDoor.Given Go.Proofs.YtggpejjfgphihaaDoor.H Go.Proofs.YtggpejjfgphihaaDoor.Z Go.Proofs.YtggpejjfgphihaaDoor.Y Go.Proofs.YtggpejjfgphihaaDoor.V
set_option linter.unusedVariables false
set_option linter.unusedSimpArgs false
def mustN (m c : Nat) : Bool := decide (c = 125) || decide (c = 126) || m.testBit c
theorem f_Must (m c : Nat) (hm : m < 4294967296) (hc : c < 256) : accm_Must.f (m : Int) (c : Int) = some (mustN m c) := by
  have hs : shr .u32 (m : Int) (c : Int) = ((m / 2 ^ min c 32 : Nat) : Int) := by
    unfold shr
    rw [show ((c : Nat) : Int).toNat = c from rfl, show IntKind.u32.bits = 32 from rfl]
    exact (Int.natCast_ediv m (2 ^ min c 32)).symm ▸ by rw [Int.natCast_pow]; rfl
  have hlt : m / 2 ^ min c 32 < 2 ^ 32 := Nat.lt_of_le_of_lt (Nat.div_le_self _ _) hm
  have ht : m / 2 ^ min c 32 % 2 = 1 ↔ m.testBit c = true := by
    rw [Nat.testBit_eq_decide_div_mod_eq, decide_eq_true_eq]
    by_cases h : c ≤ 32
    · rw [Nat.min_eq_left h]
    · rw [Nat.min_eq_right (by omega), Nat.div_eq_of_lt (show m < 2 ^ 32 from hm), Nat.div_eq_of_lt (Nat.lt_of_lt_of_le hm (Nat.pow_le_pow_right (n := 2) (by decide) (show 32 ≤ c by omega)))]
  unfold accm_Must.f accm_Has.f mustN
  rw [hs, and_u32_one _ hlt]
  by_cases h1 : c = 126
  · rw [if_pos (by omega)]; simp [h1]
  rw [if_neg (by omega)]
  by_cases h2 : c = 125
  · rw [if_pos (by omega)]; simp [h2]
  rw [if_neg (by omega), if_pos (by omega), Option.bind_some]
  congr 1
  rw [Bool.eq_iff_iff]
  simp only [h1, h2, decide_false, Bool.false_or, beq_iff_eq]
  rw [← ht]; omega
theorem r_Must (k m c : Nat) (hm : m < 4294967296) (hk : 33 ≤ k) : marlineref03_Must.f k (m : Int) (c : Int) = some (mustN m c) := by
  unfold marlineref03_Must.f mustN
  by_cases h1 : c = 125
  · rw [if_pos (by omega)]; simp [h1]
  rw [if_neg (by omega)]
  by_cases h2 : c = 126
  · rw [if_pos (by omega)]; simp [h2]
  rw [if_neg (by omega)]
  by_cases h3 : c < 32
  · rw [has_r k c m h3 (by omega) hm, Option.bind_some]; simp [h1, h2]
  · unfold C.marlineref03_Has.f
    rw [if_pos (by omega), Option.bind_some]
    have : m.testBit c = false := Nat.testBit_lt_two_pow (Nat.lt_of_lt_of_le hm (Nat.pow_le_pow_right (n := 2) (by decide) (show 32 ≤ c by omega)))
    simp [h1, h2, this]
def stuffN (m : Nat) : List Nat → List Nat
  | [] => []
  | c :: B => (if mustN m c = true then [125, c ^^^ 32] else [c]) ++ stuffN m B
theorem stuffN_len (m : Nat) (B : List Nat) : (stuffN m B).length ≤ 2 * B.length := by
  induction B with
  | nil => simp [stuffN]
  | cons c B ih =>
    unfold stuffN
    rw [List.length_append, List.length_cons]
    split <;> simp <;> omega
theorem step1 (i : Nat) (h : i < 10000000) : wrap64 ((i : Int) + 1) = ((i + 1 : Nat) : Int) := w64 (i + 1) (by omega)
theorem size_go (m : Nat) (hm : m < 4294967296) (B : List Nat) (hB : ∀ x ∈ B, x < 256) (hl : B.length < 100000) : ∀ (n i k s : Nat), B.length = i + n → s + n < 1000000 →
    ∃ t : Nat, t ≤ s + n ∧ stuff_Size.l0 (k + n + 1) (m : Int) (s : Int) (ofN B) (B.length : Int) (i : Int) = some (t : Int) := by
  intro n
  induction n with
  | zero =>
    intro i k s he hs
    refine ⟨s, by omega, ?_⟩
    rw [stuff_Size.l0, if_neg (by omega)]
  | succ n ih =>
    intro i k s he hs
    have hi : i < B.length := by omega
    have hc := hB _ (List.getElem_mem hi)
    rw [show k + (n + 1) + 1 = (k + n + 1) + 1 by omega, stuff_Size.l0, if_pos (by omega), if_pos (by omega), if_pos (by rw [ofN_length]; omega), ofN_rd B i hi, bd (f_Must m _ hm hc), step1 i (by omega)]
    split
    · obtain ⟨t, ht, h⟩ := ih (i + 1) k (s + 1) (by omega) (by omega)
      exact ⟨t, by omega, by rw [step1 s (by omega)]; exact h⟩
    · obtain ⟨t, ht, h⟩ := ih (i + 1) k s (by omega) (by omega)
      exact ⟨t, by omega, h⟩
theorem stuff_go (m : Nat) (hm : m < 4294967296) (B : List Nat) (hB : ∀ x ∈ B, x < 256) (hl : B.length < 100000) : ∀ (n i k : Nat) (acc : List Nat), B.length = i + n → acc.length + 2 * n < 1000000 →
    stuff_Stuff.l0 (k + n + 1) (m : Int) (ofN acc) (ofN B) (B.length : Int) (i : Int) = some (ofN (acc ++ stuffN m (B.drop i))) := by
  intro n
  induction n with
  | zero =>
    intro i k acc he ha
    rw [stuff_Stuff.l0, if_neg (by omega), List.drop_eq_nil_of_le (by omega)]; simp [stuffN]
  | succ n ih =>
    intro i k acc he ha
    have hi : i < B.length := by omega
    have hc := hB _ (List.getElem_mem hi)
    rw [show k + (n + 1) + 1 = (k + n + 1) + 1 by omega, stuff_Stuff.l0, if_pos (by omega), if_pos (by omega), if_pos (by rw [ofN_length]; omega), ofN_rd B i hi, bd (f_Must m _ hm hc), step1 i (by omega), List.drop_eq_getElem_cons hi, stuffN]
    have hx : Go.bits .xor .u8 ((B[i] : Nat) : Int) 32 = ((B[i] ^^^ 32 : Nat) : Int) := xor_u8 _ 32 hc (by decide)
    split
    · rw [if_pos (by rw [ofN_length]; omega), Option.bind_some, if_pos (by rw [List.length_append, ofN_length]; simp; omega), hx,
        show ofN acc ++ [125] ++ [((B[i] ^^^ 32 : Nat) : Int)] = ofN (acc ++ [125, B[i] ^^^ 32]) by simp [ofN], ih (i + 1) k _ (by omega) (by simp; omega)]
      rename_i h
      simp [h]
    · rw [if_pos (by rw [ofN_length]; omega), show ofN acc ++ [((B[i] : Nat) : Int)] = ofN (acc ++ [B[i]]) by simp [ofN], ih (i + 1) k _ (by omega) (by simp; omega)]
      rename_i h
      simp [h]
theorem f_Stuff (k m : Nat) (hm : m < 4294967296) (B : List Nat) (hB : ∀ x ∈ B, x < 256) (hl : B.length < 100000) (hk : B.length + 1 ≤ k) : stuff_Stuff.f k (m : Int) (ofN B) = some (ofN (stuffN m B)) := by
  obtain ⟨j, rfl⟩ : ∃ j, k = j + B.length + 1 := ⟨k - (B.length + 1), by omega⟩
  obtain ⟨t, ht, h⟩ := size_go m hm B hB hl B.length 0 j B.length (by omega) (by omega)
  unfold stuff_Stuff.f stuff_Size.f
  rw [ofN_length, bd (show stuff_Size.l0 (j + B.length + 1) (m : Int) (B.length : Int) (ofN B) (B.length : Int) 0 = some (t : Int) from h), if_pos (by omega), if_pos (by omega)]
  have := stuff_go m hm B hB hl B.length 0 j [] (by omega) (by simp; omega)
  simpa [ofN] using this
theorem rstuff_go (m : Nat) (hm : m < 4294967296) (B : List Nat) (hB : ∀ x ∈ B, x < 256) (hl : B.length < 100000) : ∀ (n i k : Nat) (acc : List Nat), B.length = i + n → acc.length + 2 * n < 1000000 → 40 ≤ k →
    marlineref04_Stuff.l0 (k + n + 1) (m : Int) (ofN B) (ofN acc) (i : Int) = some (ofN (acc ++ stuffN m (B.drop i))) := by
  intro n
  induction n with
  | zero =>
    intro i k acc he ha hk
    rw [marlineref04_Stuff.l0, if_neg (by rw [ofN_length]; omega), List.drop_eq_nil_of_le (by omega)]; simp [stuffN]
  | succ n ih =>
    intro i k acc he ha hk
    have hi : i < B.length := by omega
    have hc := hB _ (List.getElem_mem hi)
    rw [show k + (n + 1) + 1 = (k + n + 1) + 1 by omega, marlineref04_Stuff.l0, if_pos (by rw [ofN_length]; omega), if_pos (by omega), ofN_rd B i hi, bd (r_Must (k + n + 1) m _ hm (by omega)), step1 i (by omega), List.drop_eq_getElem_cons hi, stuffN]
    have hx : Go.bits .xor .u8 ((B[i] : Nat) : Int) 32 = ((B[i] ^^^ 32 : Nat) : Int) := xor_u8 _ 32 hc (by decide)
    split
    · unfold marlineref04_Turn.f
      rw [Option.bind_some, Option.bind_some, if_pos (by rw [ofN_length]; simp; omega), hx,
        show ofN acc ++ [125, ((B[i] ^^^ 32 : Nat) : Int)] = ofN (acc ++ [125, B[i] ^^^ 32]) by simp [ofN], ih (i + 1) k _ (by omega) (by simp; omega) hk]
      rename_i h
      simp [h]
    · rw [if_pos (by rw [ofN_length]; omega), show ofN acc ++ [((B[i] : Nat) : Int)] = ofN (acc ++ [B[i]]) by simp [ofN], ih (i + 1) k _ (by omega) (by simp; omega) hk]
      rename_i h
      simp [h]
theorem r_Stuff (k m : Nat) (hm : m < 4294967296) (B : List Nat) (hB : ∀ x ∈ B, x < 256) (hl : B.length < 100000) (hk : B.length + 41 ≤ k) : marlineref04_Stuff.f k (m : Int) (ofN B) = some (ofN (stuffN m B)) := by
  obtain ⟨j, rfl, hj⟩ : ∃ j, k = j + B.length + 1 ∧ 40 ≤ j := ⟨k - (B.length + 1), by omega, by omega⟩
  unfold marlineref04_Stuff.f
  have := rstuff_go m hm B hB hl B.length 0 j [] (by omega) (by simp; omega) hj
  simpa [ofN] using this
def octF (c j : Nat) : Nat → List Nat
  | 0 => []
  | d + 1 => (c / 2 ^ j % 2) :: octF c (j + 1) d
def bitsN : List Nat → List Nat
  | [] => []
  | c :: B => octF c 0 8 ++ bitsN B
theorem octF_len (c : Nat) : ∀ d j, (octF c j d).length = d := by
  intro d
  induction d with
  | zero => intro j; rfl
  | succ d ih => intro j; simp [octF, ih]
theorem octF_lt (c : Nat) : ∀ d j, ∀ x ∈ octF c j d, x < 2 := by
  intro d
  induction d with
  | zero => intro j x hx; simp [octF] at hx
  | succ d ih =>
    intro j x hx
    rcases List.mem_cons.1 hx with rfl | hx
    · omega
    · exact ih _ x hx
theorem bitsN_len (B : List Nat) : (bitsN B).length = 8 * B.length := by
  induction B with
  | nil => rfl
  | cons c B ih => rw [bitsN, List.length_append, octF_len, ih, List.length_cons]; omega
theorem bitsN_lt (B : List Nat) : ∀ x ∈ bitsN B, x < 2 := by
  induction B with
  | nil => intro x hx; simp [bitsN] at hx
  | cons c B ih =>
    intro x hx
    rcases List.mem_append.1 hx with hx | hx
    · exact octF_lt c 8 0 x hx
    · exact ih x hx
theorem of_oct (c : Nat) (hc : c < 256) (L : List Int) (len i : Int) (k : Nat) : ∀ (d j : Nat) (acc : List Nat), j + d = 8 → acc.length + d < 1000000 →
    bits_Of.l1 (k + d + 1) (ofN acc) (c : Int) L len i (j : Int) = bits_Of.l0 k (ofN (acc ++ octF c j d)) L len (wrap64 (i + 1)) := by
  intro d
  induction d with
  | zero =>
    intro j acc hj ha
    rw [bits_Of.l1, if_neg (by omega)]; simp [octF]
  | succ d ih =>
    intro j acc hj ha
    have hs : shr .u8 (c : Int) (j : Int) = ((c / 2 ^ j : Nat) : Int) := by
      unfold shr
      rw [show ((j : Nat) : Int).toNat = j from rfl, show IntKind.u8.bits = 8 from rfl, Nat.min_eq_left (by omega)]
      rw [Int.natCast_ediv, Int.natCast_pow]; rfl
    have hb : Go.bits .and .u8 (shr .u8 (c : Int) (j : Int)) 1 = ((c / 2 ^ j % 2 : Nat) : Int) := by
      rw [hs, show (1 : Int) = ((1 : Nat) : Int) from rfl, and_u8 _ 1 (Nat.lt_of_le_of_lt (Nat.div_le_self _ _) hc) (by decide), Nat.and_one_is_mod]
    rw [show k + (d + 1) + 1 = (k + d + 1) + 1 by omega, bits_Of.l1, if_pos (by omega), if_pos (by omega), if_pos (by rw [ofN_length]; omega), hb, step1 j (by omega),
      show ofN acc ++ [((c / 2 ^ j % 2 : Nat) : Int)] = ofN (acc ++ [c / 2 ^ j % 2]) by simp [ofN], ih (j + 1) _ (by omega) (by simp; omega)]
    simp [octF]
theorem of_go (B : List Nat) (hB : ∀ x ∈ B, x < 256) (hl : B.length < 10000) : ∀ (n i k : Nat) (acc : List Nat), B.length = i + n → acc.length + 8 * n < 900000 →
    bits_Of.l0 (k + 10 * n + 1) (ofN acc) (ofN B) (B.length : Int) (i : Int) = some (ofN (acc ++ bitsN (B.drop i))) := by
  intro n
  induction n with
  | zero =>
    intro i k acc he ha
    rw [bits_Of.l0, if_neg (by omega), List.drop_eq_nil_of_le (by omega)]; simp [bitsN]
  | succ n ih =>
    intro i k acc he ha
    have hi : i < B.length := by omega
    have hc := hB _ (List.getElem_mem hi)
    have h1 := of_oct B[i] hc (ofN B) (B.length : Int) (i : Int) (k + 10 * n + 1) 8 0 acc (by omega) (by omega)
    rw [show k + 10 * (n + 1) + 1 = (k + 10 * n + 1 + 8 + 1) + 1 by omega, bits_Of.l0, if_pos (by omega), if_pos (by omega), if_pos (by rw [ofN_length]; omega), ofN_rd B i hi]
    refine h1.trans ?_
    rw [step1 i (by omega), ih (i + 1) k _ (by omega) (by rw [List.length_append, octF_len]; omega), List.drop_eq_getElem_cons hi, bitsN, List.append_assoc]
theorem f_Of (k : Nat) (B : List Nat) (hB : ∀ x ∈ B, x < 256) (hl : B.length < 10000) (hk : 10 * B.length + 1 ≤ k) : bits_Of.f k (ofN B) = some (ofN (bitsN B)) := by
  obtain ⟨j, rfl⟩ : ∃ j, k = j + 10 * B.length + 1 := ⟨k - (10 * B.length + 1), by omega⟩
  have e : wrap64 (8 * (B.length : Int)) = ((8 * B.length : Nat) : Int) := by unfold wrap64; omega
  unfold bits_Of.f
  rw [ofN_length, e, if_pos (by omega), if_pos (by omega)]
  have := of_go B hB hl B.length 0 j [] (by omega) (by simp; omega)
  simpa [ofN] using this
theorem rof_oct (c : Nat) (hc : c < 256) (L : List Int) (i : Int) (k : Nat) : ∀ (d j : Nat) (acc : List Nat), j + d = 8 → acc.length + d < 1000000 →
    marlineref01_Of.l1 (k + d + 1) L (ofN acc) i ((c / 2 ^ j : Nat) : Int) (j : Int) = marlineref01_Of.l0 k L (ofN (acc ++ octF c j d)) (wrap64 (i + 1)) := by
  intro d
  induction d with
  | zero =>
    intro j acc hj ha
    rw [marlineref01_Of.l1, if_neg (by omega)]; simp [octF]
  | succ d ih =>
    intro j acc hj ha
    have hb : (Int.tmod ((c / 2 ^ j : Nat) : Int) 2) % 256 = ((c / 2 ^ j % 2 : Nat) : Int) := by
      rw [tmod2]
      have := Nat.mod_lt (c / 2 ^ j) (show 0 < 2 by decide)
      omega
    have hd : wrap64 (Int.tdiv ((c / 2 ^ j : Nat) : Int) 2) = ((c / 2 ^ (j + 1) : Nat) : Int) := by
      have h1 : Int.tdiv ((c / 2 ^ j : Nat) : Int) 2 = ((c / 2 ^ j / 2 : Nat) : Int) := rfl
      have h2 : c / 2 ^ j ≤ c := Nat.div_le_self _ _
      rw [h1, w64 _ (by omega), Nat.div_div_eq_div_mul, Nat.pow_succ]
    rw [show k + (d + 1) + 1 = (k + d + 1) + 1 by omega, marlineref01_Of.l1, if_pos (by omega), if_pos (by rw [ofN_length]; omega), hb, hd, step1 j (by omega),
      show ofN acc ++ [((c / 2 ^ j % 2 : Nat) : Int)] = ofN (acc ++ [c / 2 ^ j % 2]) by simp [ofN], ih (j + 1) _ (by omega) (by simp; omega)]
    simp [octF]
theorem rof_go (B : List Nat) (hB : ∀ x ∈ B, x < 256) (hl : B.length < 10000) : ∀ (n i k : Nat) (acc : List Nat), B.length = i + n → acc.length + 8 * n < 900000 →
    marlineref01_Of.l0 (k + 10 * n + 1) (ofN B) (ofN acc) (i : Int) = some (ofN (acc ++ bitsN (B.drop i))) := by
  intro n
  induction n with
  | zero =>
    intro i k acc he ha
    rw [marlineref01_Of.l0, if_neg (by rw [ofN_length]; omega), List.drop_eq_nil_of_le (by omega)]; simp [bitsN]
  | succ n ih =>
    intro i k acc he ha
    have hi : i < B.length := by omega
    have hc := hB _ (List.getElem_mem hi)
    have h1 := rof_oct B[i] hc (ofN B) (i : Int) (k + 10 * n + 1) 8 0 acc (by omega) (by omega)
    rw [show k + 10 * (n + 1) + 1 = (k + 10 * n + 1 + 8 + 1) + 1 by omega, marlineref01_Of.l0, if_pos (by rw [ofN_length]; omega), if_pos (by omega), ofN_rd B i hi, w64 _ (by omega)]
    rw [show B[i] / 2 ^ 0 = B[i] by simp] at h1
    refine h1.trans ?_
    rw [step1 i (by omega), ih (i + 1) k _ (by omega) (by rw [List.length_append, octF_len]; omega), List.drop_eq_getElem_cons hi, bitsN, List.append_assoc]
theorem r_Of (k : Nat) (B : List Nat) (hB : ∀ x ∈ B, x < 256) (hl : B.length < 10000) (hk : 10 * B.length + 1 ≤ k) : marlineref01_Of.f k (ofN B) = some (ofN (bitsN B)) := by
  obtain ⟨j, rfl⟩ : ∃ j, k = j + 10 * B.length + 1 := ⟨k - (10 * B.length + 1), by omega⟩
  unfold marlineref01_Of.f
  have := rof_go B hB hl B.length 0 j [] (by omega) (by simp; omega)
  simpa [ofN] using this
end Go.Proofs.YtggpejjfgphihaaDoor.Pu
end

section
namespace Go.Proofs.YtggpejjfgphihaaDoor.Pu
open Go.RowKit Go.Proofs.YtggpejjfgphihaaDoorW.PrintWords Go.Proofs.YtggpejjfgphihaaDoorW.PrintLast Go.Proofs.YtggpejjfgphihaaDoorW.PrintMore
open Go.Proofs.YtggpejjfgphihaaDoor.Given Go.Proofs.YtggpejjfgphihaaDoor.H Go.Proofs.YtggpejjfgphihaaDoor.Z Go.Proofs.YtggpejjfgphihaaDoor.Y Go.Proofs.YtggpejjfgphihaaDoor.V
set_option linter.unusedVariables false
set_option linter.unusedSimpArgs false
def insN : List Nat → Nat → List Nat
  | [], _ => []
  | b :: L, r => if b = 0 then 0 :: insN L 0 else if r + 1 = 5 then b :: 0 :: insN L 0 else b :: insN L (r + 1)
theorem insN_len (L : List Nat) : ∀ r, (insN L r).length ≤ 2 * L.length := by
  induction L with
  | nil => intro r; simp [insN]
  | cons b L ih =>
    intro r
    unfold insN
    have h0 := ih 0
    have h1 := ih (r + 1)
    split
    · simp; omega
    · split <;> simp <;> omega
theorem clean_go (L : List Nat) (hL : ∀ x ∈ L, x < 2) (hl : L.length < 1000000) : ∀ (n i k : Nat), L.length = i + n →
    bits_Clean.l0 (k + n + 1) (ofN (L.take i ++ List.replicate n 0)) (ofN L) (L.length : Int) (i : Int) = some (ofN L) := by
  intro n
  induction n with
  | zero =>
    intro i k he
    rw [bits_Clean.l0, if_neg (by omega), List.take_of_length_le (by omega)]; simp
  | succ n ih =>
    intro i k he
    have hi : i < L.length := by omega
    have hc := hL _ (List.getElem_mem hi)
    have hb : Go.bits .and .u8 ((L[i] : Nat) : Int) 1 = ((L[i] : Nat) : Int) := by
      rw [show (1 : Int) = ((1 : Nat) : Int) from rfl, and_u8 _ 1 (by omega) (by decide), Nat.and_one_is_mod, Nat.mod_eq_of_lt hc]
    have hlen : (ofN (L.take i ++ List.replicate (n + 1) 0)).length = L.length := by rw [ofN_length, List.length_append, List.length_take, List.length_replicate]; omega
    have hset : (ofN (L.take i ++ List.replicate (n + 1) 0)).set i ((L[i] : Nat) : Int) = ofN (L.take (i + 1) ++ List.replicate n 0) := by
      unfold ofN
      rw [← List.map_set]
      congr 1
      rw [List.set_append_right _ _ (by rw [List.length_take]; omega), List.length_take, Nat.min_eq_left (by omega), Nat.sub_self, List.replicate_succ, List.set_cons_zero, List.take_succ_eq_append_getElem hi, List.append_assoc]; rfl
    rw [show k + (n + 1) + 1 = (k + n + 1) + 1 by omega, bits_Clean.l0, if_pos (by omega), if_pos (by omega), if_pos (by rw [ofN_length]; omega), if_pos (by rw [hlen]; omega), ofN_rd L i hi, hb, Int.toNat_natCast, hset, step1 i (by omega)]
    exact ih (i + 1) k (by omega)
theorem f_Clean (k : Nat) (L : List Nat) (hL : ∀ x ∈ L, x < 2) (hl : L.length < 1000000) (hk : L.length + 1 ≤ k) : bits_Clean.f k (ofN L) = some (ofN L) := by
  obtain ⟨j, rfl⟩ : ∃ j, k = j + L.length + 1 := ⟨k - (L.length + 1), by omega⟩
  unfold bits_Clean.f
  rw [ofN_length, if_pos (by omega), if_pos (by omega), Int.toNat_natCast]
  have := clean_go L hL hl L.length 0 j (by omega)
  rw [show ofN (L.take 0 ++ List.replicate L.length 0) = List.replicate L.length (0 : Int) by simp [ofN]] at this
  exact this
theorem ins_go (L : List Nat) (hL : ∀ x ∈ L, x < 2) (hl : L.length < 100000) : ∀ (n i k r : Nat) (acc : List Nat), L.length = i + n → r < 5 → acc.length + 2 * n < 1000000 →
    zero_Insert.l0 (k + n + 1) (ofN acc) (r : Int) (ofN L) (L.length : Int) (i : Int) = some (ofN (acc ++ insN (L.drop i) r)) := by
  intro n
  induction n with
  | zero =>
    intro i k r acc he hr ha
    rw [zero_Insert.l0, if_neg (by omega), List.drop_eq_nil_of_le (by omega)]; simp [insN]
  | succ n ih =>
    intro i k r acc he hr ha
    have hi : i < L.length := by omega
    have hc := hL _ (List.getElem_mem hi)
    rw [show k + (n + 1) + 1 = (k + n + 1) + 1 by omega, zero_Insert.l0, if_pos (by omega), if_pos (by omega), if_pos (by rw [ofN_length]; omega), if_pos (by rw [ofN_length]; omega), Option.bind_some, ofN_rd L i hi, step1 i (by omega), List.drop_eq_getElem_cons hi, insN,
      show ofN acc ++ [((L[i] : Nat) : Int)] = ofN (acc ++ [L[i]]) by simp [ofN], step1 r (by omega)]
    by_cases h0 : L[i] = 0
    · rw [if_pos (by omega), if_pos h0]
      have := ih (i + 1) k 0 (acc ++ [L[i]]) (by omega) (by omega) (by simp; omega)
      rw [show ((0 : Nat) : Int) = 0 from rfl] at this
      rw [this, h0]; simp
    · rw [if_neg (by omega), if_neg h0]
      by_cases h5 : r + 1 = 5
      · rw [if_pos (by omega), if_pos h5, if_pos (by rw [ofN_length]; simp; omega), show ofN (acc ++ [L[i]]) ++ [0] = ofN (acc ++ [L[i], 0]) by simp [ofN]]
        have := ih (i + 1) k 0 (acc ++ [L[i], 0]) (by omega) (by omega) (by simp; omega)
        rw [show ((0 : Nat) : Int) = 0 from rfl] at this
        rw [this]; simp
      · rw [if_neg (by omega), if_neg h5, ih (i + 1) k (r + 1) _ (by omega) (by omega) (by simp; omega)]; simp
theorem f_Insert (k : Nat) (L : List Nat) (hL : ∀ x ∈ L, x < 2) (hl : L.length < 100000) (hk : L.length + 1 ≤ k) : zero_Insert.f k (ofN L) = some (ofN (insN L 0)) := by
  have hcl := f_Clean k L hL (by omega) hk
  obtain ⟨j, rfl⟩ : ∃ j, k = j + L.length + 1 := ⟨k - (L.length + 1), by omega⟩
  have e1 : wrap64 ((L.length : Int) / 5) = ((L.length / 5 : Nat) : Int) := by unfold wrap64; omega
  have e2 : wrap64 ((L.length : Int) + ((L.length / 5 : Nat) : Int)) = ((L.length + L.length / 5 : Nat) : Int) := by unfold wrap64; omega
  unfold zero_Insert.f
  rw [ofN_length, e1, e2, if_pos (by omega), if_pos (by omega), bd hcl, ofN_length]
  have := ins_go L hL hl L.length 0 j 0 [] (by omega) (by omega) (by simp; omega)
  simpa [ofN] using this
def ones5 (l : List Nat) : Bool := l.all fun x => x == 1
theorem all_go (L : List Int) (acc : List Nat) (hl : acc.length < 1000000) (i : Nat) (hi : i < 1000000) (k : Nat) : ∀ (d s : Nat) (x6 : Bool), acc.length = s + d →
    marlineref06_Insert.l1 (k + d + 1) L (ofN acc) (i : Int) (acc.length : Int) x6 (s : Int) = if (x6 && ones5 (acc.drop s)) = true then marlineref06_Insert.l0 k L (ofN (acc ++ [0])) ((i + 1 : Nat) : Int) else marlineref06_Insert.l0 k L (ofN acc) ((i + 1 : Nat) : Int) := by
  intro d
  induction d with
  | zero =>
    intro s x6 hs
    rw [marlineref06_Insert.l1, if_neg (by omega), step1 i (by omega), List.drop_eq_nil_of_le (by omega)]
    cases x6
    · simp
    · simp [ones5, ofN]; omega
  | succ d ih =>
    intro s x6 hs
    have h : s < acc.length := by omega
    rw [show k + (d + 1) + 1 = (k + d + 1) + 1 by omega, marlineref06_Insert.l1, if_pos (by omega), step1 s (by omega), List.drop_eq_getElem_cons h]
    cases x6
    · rw [if_neg (by decide), ih (s + 1) false (by omega)]; simp
    · rw [if_pos rfl, if_pos (by omega), if_pos (by rw [ofN_length]; omega), ofN_rd acc s h, ih (s + 1) _ (by omega)]
      have : (((acc[s] : Nat) : Int) == 1) = (acc[s] == 1) := by rw [Bool.eq_iff_iff]; simp; omega
      rw [this, Bool.true_and]; rfl
def Ends (acc : List Nat) (r : Nat) : Prop := ∃ pre, acc = pre ++ List.replicate r 1 ∧ (pre = [] ∨ ∃ q, pre = q ++ [0])
theorem ends_zero (acc : List Nat) : Ends (acc ++ [0]) 0 := ⟨acc ++ [0], by simp, Or.inr ⟨acc, rfl⟩⟩
theorem ends_one {acc : List Nat} {r : Nat} (h : Ends acc r) : Ends (acc ++ [1]) (r + 1) := by
  obtain ⟨pre, rfl, hp⟩ := h
  exact ⟨pre, by rw [List.append_assoc, List.replicate_succ'], hp⟩
theorem ends_five {acc : List Nat} {r : Nat} (h : Ends acc r) (hr : r ≤ 5) (hn : 5 ≤ acc.length) : ones5 (acc.drop (acc.length - 5)) = decide (r = 5) := by
  obtain ⟨pre, rfl, hp⟩ := h
  by_cases h5 : r = 5
  · subst h5
    rw [List.length_append, List.length_replicate, Nat.add_sub_cancel, List.drop_left]; decide
  · rw [decide_eq_false h5]
    rcases hp with rfl | ⟨q, rfl⟩
    · simp at hn; omega
    · have hm : (0 : Nat) ∈ (q ++ [0] ++ List.replicate r 1).drop ((q ++ [0] ++ List.replicate r 1).length - 5) := by
        have e : (q ++ [0] ++ List.replicate r 1).length - 5 ≤ q.length := by simp; omega
        rw [List.append_assoc] at e ⊢
        rw [List.drop_append_of_le_length e]
        simp
      have : ones5 ((q ++ [0] ++ List.replicate r 1).drop ((q ++ [0] ++ List.replicate r 1).length - 5)) ≠ true := by
        intro ht
        have := List.all_eq_true.1 ht 0 hm
        simp at this
      simpa using this
theorem rins_go (L : List Nat) (hL : ∀ x ∈ L, x < 2) (hl : L.length < 100000) : ∀ (n i k r : Nat) (acc : List Nat), L.length = i + n → r < 5 → acc.length + 2 * n < 1000000 → Ends acc r →
    marlineref06_Insert.l0 (k + 7 * n + 1) (ofN L) (ofN acc) (i : Int) = some (ofN (acc ++ insN (L.drop i) r)) := by
  intro n
  induction n with
  | zero =>
    intro i k r acc he hr ha hE
    rw [marlineref06_Insert.l0, if_neg (by rw [ofN_length]; omega), List.drop_eq_nil_of_le (by omega)]; simp [insN]
  | succ n ih =>
    intro i k r acc he hr ha hE
    have hi : i < L.length := by omega
    have hc := hL _ (List.getElem_mem hi)
    have hmod : Int.tmod ((L[i] : Nat) : Int) 2 = ((L[i] : Nat) : Int) := by rw [tmod2, Nat.mod_eq_of_lt hc]
    rw [show k + 7 * (n + 1) + 1 = (k + 7 * n + 1 + 5 + 1) + 1 by omega, marlineref06_Insert.l0, if_pos (by rw [ofN_length]; omega), if_pos (by omega), if_pos (by rw [ofN_length]; omega), Option.bind_some, ofN_rd L i hi, hmod,
      show ofN acc ++ [((L[i] : Nat) : Int)] = ofN (acc ++ [L[i]]) by simp [ofN], ofN_length, step1 i (by omega), List.drop_eq_getElem_cons hi, insN]
    have key : ∀ r', Ends (acc ++ [L[i]]) r' → r' ≤ 5 → (if ((acc ++ [L[i]]).length : Int) < 5 then marlineref06_Insert.l0 (k + 7 * n + 1 + 5 + 1) (ofN L) (ofN (acc ++ [L[i]])) ((i + 1 : Nat) : Int) else marlineref06_Insert.l1 (k + 7 * n + 1 + 5 + 1) (ofN L) (ofN (acc ++ [L[i]])) (i : Int) ((acc ++ [L[i]]).length : Int) true (wrap64 (((acc ++ [L[i]]).length : Int) - 5))) = some (ofN (acc ++ [L[i]] ++ (if r' = 5 then 0 :: insN (L.drop (i + 1)) 0 else insN (L.drop (i + 1)) r'))) := by
      intro r' hE' hr'
      by_cases h5 : ((acc ++ [L[i]]).length : Int) < 5
      · have hne : r' ≠ 5 := by
          obtain ⟨pre, hp, _⟩ := hE'
          have := congrArg List.length hp
          simp at this h5; omega
        rw [if_pos h5, if_neg hne]
        have := ih (i + 1) (k + 6) r' (acc ++ [L[i]]) (by omega) (by omega) (by simp; omega) hE'
        rw [show k + 6 + 7 * n + 1 = k + 7 * n + 1 + 5 + 1 by omega] at this
        exact this
      · have hlen : 5 ≤ (acc ++ [L[i]]).length := by omega
        have hw : wrap64 (((acc ++ [L[i]]).length : Int) - 5) = (((acc ++ [L[i]]).length - 5 : Nat) : Int) := by
          have : (acc ++ [L[i]]).length < 1000000 := by simp; omega
          unfold wrap64; omega
        rw [if_neg h5, hw, all_go (ofN L) (acc ++ [L[i]]) (by simp; omega) i (by omega) (k + 7 * n + 1) 5 ((acc ++ [L[i]]).length - 5) true (by omega), Bool.true_and, ends_five hE' hr' hlen]
        by_cases he5 : r' = 5
        · rw [if_pos (by simp [he5]), if_pos he5, ih (i + 1) k 0 (acc ++ [L[i]] ++ [0]) (by omega) (by omega) (by simp; omega) (ends_zero _)]; simp
        · rw [if_neg (by simp [he5]), if_neg he5, ih (i + 1) k r' (acc ++ [L[i]]) (by omega) (by omega) (by simp; omega) hE']
    by_cases h0 : L[i] = 0
    · rw [if_pos h0]
      have := key 0 (by rw [h0]; exact ends_zero acc) (by omega)
      refine this.trans ?_
      rw [if_neg (by decide), h0]; simp
    · have h1 : L[i] = 1 := by omega
      rw [if_neg h0]
      have := key (r + 1) (by rw [h1]; exact ends_one hE) (by omega)
      refine this.trans ?_
      by_cases h5 : r + 1 = 5
      · rw [if_pos h5, if_pos h5]; simp
      · rw [if_neg h5, if_neg h5]; simp
theorem r_Insert (k : Nat) (L : List Nat) (hL : ∀ x ∈ L, x < 2) (hl : L.length < 100000) (hk : 7 * L.length + 1 ≤ k) : marlineref06_Insert.f k (ofN L) = some (ofN (insN L 0)) := by
  obtain ⟨j, rfl⟩ : ∃ j, k = j + 7 * L.length + 1 := ⟨k - (7 * L.length + 1), by omega⟩
  unfold marlineref06_Insert.f
  have := rins_go L hL hl L.length 0 j 0 [] (by omega) (by omega) (by simp; omega) ⟨[], by simp, Or.inl rfl⟩
  simpa [ofN] using this
def wireN (sy : Bool) (m : Nat) (F : List Nat) : List Nat := if sy = true then [0, 1, 1, 1, 1, 1, 1, 0] ++ insN (bitsN F) 0 ++ [0, 1, 1, 1, 1, 1, 1, 0] else [126] ++ stuffN m F ++ [126]
theorem f_Flag (k : Nat) : zero_Flag.f (k + 11) = some (ofN [0, 1, 1, 1, 1, 1, 1, 0]) := by
  unfold zero_Flag.f
  have := f_Of (k + 11) [126] (by decide) (by decide) (by simp)
  rw [bd (show bits_Of.f (k + 11) [126] = some (ofN (bitsN [126])) from this)]
  decide
theorem concat3 (A B C : List Nat) (h : A.length + B.length + C.length < 100000) : slices_Concat_byte_byte.f [ofN A, ofN B, ofN C] = some (ofN (A ++ B ++ C)) := by
  unfold slices_Concat_byte_byte.f
  have e : ([ofN A, ofN B, ofN C] : List (List Int)).flatten = ofN (A ++ B ++ C) := by rw [ofN_append, ofN_append]; simp
  rw [e, if_pos ⟨by rw [ofN_length, List.length_append, List.length_append]; exact h, by simp⟩]
theorem f_Sync (k : Nat) (F : List Nat) (hF : ∀ x ∈ F, x < 256) (hl : F.length < 1000) : sync_Wrap.f (k + 11000) (ofN F) = some (ofN ([0, 1, 1, 1, 1, 1, 1, 0] ++ insN (bitsN F) 0 ++ [0, 1, 1, 1, 1, 1, 1, 0])) := by
  have h1 := insN_len (bitsN F) 0
  have h2 := bitsN_len F
  unfold sync_Wrap.f
  rw [bd (f_Flag (k + 10989)), bd (f_Of (k + 11000) F hF (by omega) (by omega)), bd (f_Insert (k + 11000) (bitsN F) (bitsN_lt F) (by omega) (by omega)), bd (f_Flag (k + 10989)), bd (concat3 _ _ _ (by simp; omega))]
theorem f_Async (k m : Nat) (hm : m < 4294967296) (F : List Nat) (hF : ∀ x ∈ F, x < 256) (hl : F.length < 1000) : async_Wrap.f (k + 1100) (m : Int) (ofN F) = some (ofN ([126] ++ stuffN m F ++ [126])) := by
  have h1 := stuffN_len m F
  unfold async_Wrap.f
  rw [bd (f_Stuff (k + 1100) m hm F hF (by omega) (by omega))]
  have := concat3 [126] (stuffN m F) [126] (by simp; omega)
  rw [bd (show slices_Concat_byte_byte.f [[126], ofN (stuffN m F), [126]] = some (ofN ([126] ++ stuffN m F ++ [126])) from this)]
theorem f_Wire (k : Nat) (sy wide acfc pfc : Bool) (m : Nat) (hm : m < 4294967296) (y z : Int) (p : Nat) (hp : p < 65536) (B : List Nat) (hB : ∀ x ∈ B, x < 256) (hl : B.length < 900) :
    frame_Wire.f (k + 11000) sy wide acfc pfc (m : Int) y z (p : Int) (ofN B) = if right p = true then (if (B.length : Int) > z then some ([], 3) else some (ofN (wireN sy m (frameN wide acfc pfc p B)), 0)) else some ([], 7) := by
  have hF := frameN_lt wide acfc pfc p hp B hB
  have hFl := frameN_len wide acfc pfc p B
  have hh := headN_le acfc pfc p
  have hsz := size_le wide
  unfold frame_Wire.f
  rw [f_Build (k + 10995) sy wide acfc pfc (m : Int) y z p hp B hB (by omega)]
  split
  · split
    · rfl
    · cases sy
      · rw [Option.bind_some]
        show (if (0 : Int) = 0 then (if false = true then _ else ((async_Wrap.f (k + 11000) (m : Int) (ofN (frameN wide acfc pfc p B))).bind fun t109 => some (t109, (0 : Int)))) else _) = _
        rw [if_pos rfl, if_neg (by decide), bd (f_Async (k + 9900) m hm _ hF (by omega))]; rfl
      · rw [Option.bind_some]
        show (if (0 : Int) = 0 then (if true = true then ((sync_Wrap.f (k + 11000) (ofN (frameN wide acfc pfc p B))).bind fun t109 => some (t109, (0 : Int))) else _) else _) = _
        rw [if_pos rfl, if_pos rfl, bd (f_Sync k _ hF (by omega))]; rfl
  · rfl
theorem r_Wire (k : Nat) (sy b c d : Bool) (m : Nat) (hm : m < 4294967296) (y z : Int) (F : List Nat) (hF : ∀ x ∈ F, x < 256) (hl : F.length < 1000) :
    marlineref11_Wire.f (k + 60000) sy b c d (m : Int) y z (ofN F) = some (ofN (wireN sy m F)) := by
  have h0 := stuffN_len m F
  have h1 := insN_len (bitsN F) 0
  have h2 := bitsN_len F
  unfold marlineref11_Wire.f wireN
  cases sy
  · rw [if_neg (by decide), Option.bind_some, bd (r_Stuff (k + 60000) m hm F hF (by omega) (by omega)), if_pos (by rw [ofN_length]; simp; omega), Option.bind_some, if_pos (by rw [List.length_append, ofN_length]; simp; omega), if_neg (by decide)]
    simp [ofN]
  · rw [if_pos rfl, Option.bind_some, Option.bind_some, if_pos (by simp), Option.bind_some, bd (r_Of (k + 60000) F hF (by omega) (by omega)), bd (r_Insert (k + 60000) (bitsN F) (bitsN_lt F) (by omega) (by omega)), if_pos (by rw [ofN_length]; simp; omega), Option.bind_some, if_pos (by rw [List.length_append, ofN_length]; simp; omega), if_pos rfl]
    simp [ofN]
end Go.Proofs.YtggpejjfgphihaaDoor.Pu
end

section
namespace Go.Proofs.YtggpejjfgphihaaDoor.Pu
open Go.RowKit Go.Proofs.YtggpejjfgphihaaDoorW.PrintWords Go.Proofs.YtggpejjfgphihaaDoorW.PrintLast Go.Proofs.YtggpejjfgphihaaDoorW.PrintMore
open Go.Proofs.YtggpejjfgphihaaDoor.Given Go.Proofs.YtggpejjfgphihaaDoor.D Go.Proofs.YtggpejjfgphihaaDoor.H
set_option linter.unusedVariables false
set_option linter.unusedSimpArgs false
theorem right_small (c : Nat) (hc : c < 256) : right c = (decide (c % 2 = 1) && decide (c ≠ 255)) := by
  unfold right
  have h6 : c / 256 % 2 = 0 := by omega
  rw [decide_eq_true h6, Bool.and_true]
theorem right_two (c d : Nat) (hd : d < 256) (h0 : c % 2 = 0) : right (256 * c + d) = (decide (d % 2 = 1) && !(decide (c = 0) && decide (d = 255))) := by
  unfold right
  have hq : (256 * c + d) / 256 % 2 = 0 := by omega
  have hm : (256 * c + d) % 2 = d % 2 := by omega
  rw [decide_eq_true hq, Bool.and_true, hm]
  congr 1
  by_cases h1 : c = 0
  · by_cases h2 : d = 255
    · simp [h1, h2]
    · simp [h1, h2]
  · have : ¬ 256 * c + d = 255 := by omega
    simp [h1, this]
theorem getN_one (c : Nat) (short : Bool) : getN [c] short = if c % 2 = 0 then (0, 0, 2) else if right c = true ∧ short = true then (c, 1, 0) else (0, 0, 7) := rfl
theorem getN_two (c d : Nat) (l : List Nat) (short : Bool) : getN (c :: d :: l) short = if c % 2 = 0 then (if right (256 * c + d) = true then (256 * c + d, 2, 0) else (0, 0, 7)) else if right c = true ∧ short = true then (c, 1, 0) else (0, 0, 7) := rfl
theorem odd_case (c : Nat) (hc : c < 256) (h : c % 2 = 1) (short : Bool) : (if short = true then (if ((c : Nat) : Int) = 255 then (some ((0 : Int), (0 : Int), (7 : Int))) else (some (wrap64 (c : Int), (1 : Int), (0 : Int)))) else (some ((0 : Int), (0 : Int), (7 : Int)))) = some (tri (if right c = true ∧ short = true then (c, 1, 0) else (0, 0, 7))) := by
  rw [right_small c hc, w64 c (by omega)]
  cases short
  · rw [if_neg (by decide), if_neg (by simp)]; rfl
  · rw [if_pos rfl]
    by_cases h5 : c = 255
    · rw [if_pos (by omega), if_neg (by simp [h5])]; rfl
    · rw [if_neg (by omega), if_pos (by simp [h, h5])]; rfl
theorem r_Get (l : List Nat) (hl : ∀ x ∈ l, x < 256) (short : Bool) : marlineref09_Get.f (ofN l) short = some (tri (getN l short)) := by
  unfold marlineref09_Get.f
  match l with
  | [] => rfl
  | [c] =>
    have hc := hl c List.mem_cons_self
    have r0 : rd (ofN [c]) 0 = (c : Int) := rfl
    have hln : ((ofN [c]).length : Int) = 1 := rfl
    rw [hln, if_neg (by decide), if_pos (by decide), r0, tmod2, getN_one]
    by_cases h : c % 2 = 1
    · rw [if_pos (show ((c % 2 : Nat) : Int) = 1 by omega), if_neg (show ¬ (c % 2 = 0) by omega)]
      exact odd_case c hc h short
    · rw [if_neg (show ¬ ((c % 2 : Nat) : Int) = 1 by omega), if_pos (show (1 : Int) < 2 by decide), if_pos (show c % 2 = 0 by omega)]; rfl
  | c :: d :: l =>
    have hc := hl c List.mem_cons_self
    have hd := hl d (List.mem_cons_of_mem _ List.mem_cons_self)
    have r0 : rd (ofN (c :: d :: l)) 0 = (c : Int) := rfl
    have r1 : rd (ofN (c :: d :: l)) 1 = (d : Int) := rfl
    have hln : ((ofN (c :: d :: l)).length : Int) = (l.length : Int) + 2 := by rw [ofN_length]; simp; omega
    rw [hln, if_neg (by omega), if_pos (by omega), r0, r1, tmod2, tmod2, getN_two]
    by_cases h : c % 2 = 1
    · rw [if_pos (show ((c % 2 : Nat) : Int) = 1 by omega), if_neg (show ¬ (c % 2 = 0) by omega)]
      exact odd_case c hc h short
    · have hc0 : c % 2 = 0 := by omega
      have hw : wrap64 (wrap64 (256 * wrap64 (c : Int)) + wrap64 (d : Int)) = ((256 * c + d : Nat) : Int) := by
        rw [w64 c (by omega), w64 d (by omega), show (256 : Int) * (c : Int) = ((256 * c : Nat) : Int) by omega, w64 _ (by omega)]
        unfold wrap64; omega
      rw [if_neg (show ¬ ((c % 2 : Nat) : Int) = 1 by omega), if_neg (show ¬ (l.length : Int) + 2 < 2 by omega), if_pos (show 1 < (l.length : Int) + 2 by omega), if_pos hc0, right_two c d hd hc0, hw]
      by_cases hd0 : d % 2 = 0
      · rw [if_pos (show ((d % 2 : Nat) : Int) = 0 by omega), if_neg (by simp [hd0])]; rfl
      · have hd1 : d % 2 = 1 := by omega
        rw [if_neg (show ¬ ((d % 2 : Nat) : Int) = 0 by omega)]
        by_cases hz : c = 0
        · rw [if_pos (show ((c : Nat) : Int) = 0 by omega)]
          by_cases h5 : d = 255
          · rw [if_pos (show ((d : Nat) : Int) = 255 by omega), if_neg (by simp [hz, h5])]; rfl
          · rw [if_neg (show ¬ ((d : Nat) : Int) = 255 by omega), if_pos (by simp [hd1, h5])]; rfl
        · rw [if_neg (show ¬ ((c : Nat) : Int) = 0 by omega), if_pos (by simp [hd1, hz])]; rfl
theorem r_getHead (k : Nat) (a b acfc pfc : Bool) (x y z : Int) (l : List Nat) (hl : ∀ x ∈ l, x < 256) (hlen : l.length < 4611686018427387904) : marlineref10_Get.f (k + 1) a b acfc pfc x y z (ofN l) = some (tri (getHead acfc pfc l)) := by
  have hdrop : ∀ n, ∀ x ∈ l.drop n, x < 256 := fun n x hx => hl x (List.mem_of_mem_drop hx)
  have jt : begins l = true → marlineref10_Get.j0 (k + 1) (ofN l) 0 true a b acfc pfc x y z = some (tri (getHead acfc pfc l)) := by
    intro hb
    have h2 : 2 ≤ l.length := by
      unfold begins at hb
      split at hb
      · simp
      · simp at hb
    have hle := getN_le (l.drop 2) pfc
    rw [marlineref10_Get.j0, if_pos rfl, if_pos (by rw [ofN_length]; omega), ofN_drop, r_Get _ (hdrop 2) pfc, Option.bind_some]
    unfold getHead
    simp only [hb, if_true, Bool.true_eq_false, false_and, if_false]
    generalize getN (l.drop 2) pfc = t at hle ⊢
    obtain ⟨t1, t2, t3⟩ := t
    simp only at hle ⊢
    have hw : wrap64 (2 + (t2 : Int)) = ((2 + t2 : Nat) : Int) := by unfold wrap64; omega
    show (if ((t3 : Nat) : Int) = 0 then some (((t1 : Nat) : Int), wrap64 (2 + (t2 : Int)), (0 : Int)) else some (0, 0, 7)) = _
    rw [hw]
    by_cases h3 : t3 = 0
    · rw [if_pos (by omega), if_pos h3]; rfl
    · rw [if_neg (by omega), if_neg h3]; rfl
  have jf : begins l = false → marlineref10_Get.j0 (k + 1) (ofN l) 0 false a b acfc pfc x y z = some (tri (getHead acfc pfc l)) := by
    intro hb
    rw [marlineref10_Get.j0, if_neg (by decide)]
    unfold getHead
    cases acfc
    · simp [hb, tri]
    · have hle := getN_le l pfc
      rw [if_pos rfl, if_pos (by decide), if_pos (by omega), show ((0 : Int).toNat) = 0 from rfl, List.drop_zero, r_Get _ hl pfc, Option.bind_some]
      simp only [hb, if_false, Bool.false_eq_true, and_false, Bool.true_eq_false]
      generalize getN l pfc = t at hle ⊢
      obtain ⟨t1, t2, t3⟩ := t
      simp only at hle ⊢
      have hw : wrap64 (0 + (t2 : Int)) = ((0 + t2 : Nat) : Int) := by unfold wrap64; omega
      show (if ((t3 : Nat) : Int) = 0 then some (((t1 : Nat) : Int), wrap64 (0 + (t2 : Int)), (0 : Int)) else some (0, 0, 7)) = _
      rw [hw]
      by_cases h3 : t3 = 0
      · rw [if_pos (by omega), if_pos h3]; rfl
      · rw [if_neg (by omega), if_neg h3]; rfl
  unfold marlineref10_Get.f
  match l, jt, jf with
  | [], jt, jf => exact jf rfl
  | [c], jt, jf => exact jf rfl
  | c :: d :: l, jt, jf =>
    have r0 : rd (ofN (c :: d :: l)) 0 = (c : Int) := rfl
    have r1 : rd (ofN (c :: d :: l)) 1 = (d : Int) := rfl
    have hln : ((ofN (c :: d :: l)).length : Int) = (l.length : Int) + 2 := by rw [ofN_length]; simp; omega
    rw [hln, if_pos (by omega), if_pos (by omega), r0, r1]
    by_cases h : c = 255
    · rw [if_pos (by omega), if_pos (by omega)]
      by_cases h3 : d = 3
      · rw [show (((d : Nat) : Int) == 3) = true by simp; omega]
        exact jt (by simp [begins, h, h3])
      · rw [show (((d : Nat) : Int) == 3) = false by simp; omega]
        exact jf (by simp [begins, h3])
    · rw [if_neg (by omega)]
      exact jf (by simp [begins, h])
end Go.Proofs.YtggpejjfgphihaaDoor.Pu
end

section
namespace Go.Proofs.YtggpejjfgphihaaDoor.U
open Go.Proofs.YtggpejjfgphihaaDoor.Given Go.Proofs.YtggpejjfgphihaaDoor.D Go.Proofs.YtggpejjfgphihaaDoor.H Go.RowKit Go.Proofs.YtggpejjfgphihaaDoorW.PrintWords Go.Proofs.YtggpejjfgphihaaDoorW.PrintLast Go.Proofs.YtggpejjfgphihaaDoorW.PrintMore
attribute [local go_sem] max2_int min2_int max_two min_two max_three min_three max_four min_four
open Go.Proofs.YtggpejjfgphihaaDoor.C (marlineref08_Most.f marlineref08_Most.calls)
set_option linter.unusedVariables false
set_option linter.unusedSimpArgs false
def errW : Option Int → Value
  | none => .nilIface
  | some c => .iface 0 (.int .i64 c)
theorem errW_none : errW none = .nilIface := rfl
theorem errW_some (c : Int) : errW (some c) = .iface 0 (.int .i64 c) := rfl
theorem info5 : (Tryd.prog.info? 5).map (fun i => (i.zero, i.size, i.bytes)) = some (some (.int .u8 0), 1, 1) := by kernel_rfl
end Go.Proofs.YtggpejjfgphihaaDoor.U
end

section
namespace Go.Proofs.YtggpejjfgphihaaDoor.U
open Go.Proofs.YtggpejjfgphihaaDoor.Given Go.Proofs.YtggpejjfgphihaaDoor.D Go.Proofs.YtggpejjfgphihaaDoor.H Go.RowKit Go.Proofs.YtggpejjfgphihaaDoorW.PrintWords Go.Proofs.YtggpejjfgphihaaDoorW.PrintLast Go.Proofs.YtggpejjfgphihaaDoorW.PrintMore
attribute [local go_sem] max2_int min2_int max_two min_two max_three min_three max_four min_four
open Go.Proofs.YtggpejjfgphihaaDoor.C (marlineref08_Most.f marlineref08_Most.calls)
set_option linter.unusedVariables false
set_option linter.unusedSimpArgs false
theorem c_nil (w : World) : Kd.C (Kd.int .u8) w none ([] : List Int).length [] := ⟨rfl, by simp, fun h => absurd h (Nat.lt_irrefl 0)⟩
def marlineref11_Parse.f (k : Nat) (a0_0 : Bool) (a0_1 : Bool) (a0_2 : Bool) (a0_3 : Bool) (a0_4 : Int) (a0_5 : Int) (a0_6 : Int) (l1 : List Int) : Option (Int × List Int × Int) := (marlineref08_Most.f a0_0 a0_1 a0_2 a0_3 a0_4 a0_5 a0_6).bind fun t102 => (if (l1.length : Int) > t102 then (some (0, ([] : List Int), 3)) else ((marlineref02_Size.f a0_1).bind fun t103 => (if (wrap64 ((l1.length : Int) - t103)) ≤ 0 then (some (0, ([] : List Int), 2)) else ((marlineref02_Good.f k a0_1 l1).bind fun t104 => (if t104 = true then (if 0 ≤ (wrap64 ((l1.length : Int) - t103)) then (if (wrap64 ((l1.length : Int) - t103)) ≤ (l1.length : Int) then ((marlineref10_Get.f k a0_0 a0_1 a0_2 a0_3 a0_4 a0_5 a0_6 (l1.take ((wrap64 ((l1.length : Int) - t103)) : Int).toNat)).bind fun bt106 => (if bt106.2.2 = 0 then (if (wrap64 ((wrap64 ((l1.length : Int) - t103)) - bt106.2.1)) > a0_6 then (some (0, ([] : List Int), 3)) else (if 0 ≤ bt106.2.1 then (if bt106.2.1 ≤ (wrap64 ((l1.length : Int) - t103)) then (some (bt106.1, ((l1.take ((wrap64 ((l1.length : Int) - t103)) : Int).toNat).drop (bt106.2.1 : Int).toNat), 0)) else (none)) else (none))) else (some (0, ([] : List Int), bt106.2.2)))) else (none)) else (none)) else (some (0, ([] : List Int), 6)))))))
def marlineref11_Parse.T8 : Bool × List (List Nat × List Nat) := (true, [([], []), ([], []), ([], []), ([1, 2], [1, 2]), ([0, 3], [0, 3]), ([4], [4]), ([5], [5]), ([5], [5]), ([5], [5]), ([6, 4, 0, 1, 2, 3, 4, 5, 6], [6]), ([7, 9, 0, 1, 2, 3, 4, 5, 6, 7, 9], [7]), ([8, 10, 0, 1, 2, 3, 4, 5, 6, 7, 8, 9, 10], [8])])
def marlineref11_Parse.B8 : List Nat := [0, 0, 0, 6, 15, 31, 63, 63, 63, 127, 767, 2047]
theorem marlineref11_Parse.tab8 : rtab .any (opsOf Tryd.f53 8) = marlineref11_Parse.T8 := by kernel_rfl
theorem marlineref11_Parse.bits8 : waitsOk marlineref11_Parse.T8.2 marlineref11_Parse.B8 = true := by kernel_rfl
def marlineref11_Parse.T13 : Bool × List (List Nat × List Nat) := (true, [([], []), ([], []), ([], []), ([], []), ([1, 2, 3], [1, 2, 3]), ([0, 0], [0]), ([4, 5, 0, 1, 2, 3, 4, 5], [4]), ([6, 0, 1, 2, 3, 4, 5, 6], [])])
def marlineref11_Parse.B13 : List Nat := [0, 0, 0, 0, 14, 1, 63, 127]
theorem marlineref11_Parse.tab13 : rtab .any (opsOf Tryd.f53 13) = marlineref11_Parse.T13 := by kernel_rfl
theorem marlineref11_Parse.bits13 : waitsOk marlineref11_Parse.T13.2 marlineref11_Parse.B13 = true := by kernel_rfl
set_option maxHeartbeats 8000000 in
set_option maxRecDepth 100000 in
theorem marlineref11_Parse.calls (k : Nat) (a0_0 : Bool) (a0_1 : Bool) (a0_2 : Bool) (a0_3 : Bool) (a0_4 : Int) (a0_5 : Int) (a0_6 : Int) (A1 : Option Addr) (c1 : Nat) (l1 : List Int) (r1 : Int) (r2 : List Int) (r3 : Int) (w : World) (hr1 : Kd.C (Kd.int .u8) w A1 l1.length l1) (hc1 : l1.length ≤ c1) (h : marlineref11_Parse.f k a0_0 a0_1 a0_2 a0_3 a0_4 a0_5 a0_6 l1 = some (r1, r2, r3)) :
    Calls Tryd.prog 53 #[.agg #[.bool a0_0, .bool a0_1, .bool a0_2, .bool a0_3, .int .u32 a0_4, .int .u32 a0_5, .int .i64 a0_6], .slice A1 l1.length c1] w fun e w' => ∃ (A' : Option Addr) (c' : Nat), e = .returned (.tuple #[.int .i64 r1, .slice A' r2.length c', .int .i64 r3]) ∧ Kd.C (Kd.int .u8) w' A' r2.length r2 ∧ r2.length ≤ c' ∧ Below w.heap.size w w' := by
  have hu24 := Tryd.underlying24
  have HR1 := Aside0.mk hr1
  have HC1 := Aside0.mk hc1
  clear hr1 hc1
  have HB := Aside0.mk (Below.refl w.heap.size w)
  have H : ((marlineref08_Most.f a0_0 a0_1 a0_2 a0_3 a0_4 a0_5 a0_6).bind fun t102 => (if (l1.length : Int) > t102 then (some (0, ([] : List Int), 3)) else ((marlineref02_Size.f a0_1).bind fun t103 => (if (wrap64 ((l1.length : Int) - t103)) ≤ 0 then (some (0, ([] : List Int), 2)) else ((marlineref02_Good.f k a0_1 l1).bind fun t104 => (if t104 = true then (if 0 ≤ (wrap64 ((l1.length : Int) - t103)) then (if (wrap64 ((l1.length : Int) - t103)) ≤ (l1.length : Int) then ((marlineref10_Get.f k a0_0 a0_1 a0_2 a0_3 a0_4 a0_5 a0_6 (l1.take ((wrap64 ((l1.length : Int) - t103)) : Int).toNat)).bind fun bt106 => (if bt106.2.2 = 0 then (if (wrap64 ((wrap64 ((l1.length : Int) - t103)) - bt106.2.1)) > a0_6 then (some (0, ([] : List Int), 3)) else (if 0 ≤ bt106.2.1 then (if bt106.2.1 ≤ (wrap64 ((l1.length : Int) - t103)) then (some (bt106.1, ((l1.take ((wrap64 ((l1.length : Int) - t103)) : Int).toNat).drop (bt106.2.1 : Int).toNat), 0)) else (none)) else (none))) else (some (0, ([] : List Int), bt106.2.2)))) else (none)) else (none)) else (some (0, ([] : List Int), 6)))))))) = some (r1, r2, r3) := h
  clear h
  replace H := Option.bind_eq_some_iff.mp H
  obtain ⟨t102, A30, H⟩ := H
  replace H : (if (l1.length : Int) > t102 then (some (0, ([] : List Int), 3)) else ((marlineref02_Size.f a0_1).bind fun t103 => (if (wrap64 ((l1.length : Int) - t103)) ≤ 0 then (some (0, ([] : List Int), 2)) else ((marlineref02_Good.f k a0_1 l1).bind fun t104 => (if t104 = true then (if 0 ≤ (wrap64 ((l1.length : Int) - t103)) then (if (wrap64 ((l1.length : Int) - t103)) ≤ (l1.length : Int) then ((marlineref10_Get.f k a0_0 a0_1 a0_2 a0_3 a0_4 a0_5 a0_6 (l1.take ((wrap64 ((l1.length : Int) - t103)) : Int).toNat)).bind fun bt106 => (if bt106.2.2 = 0 then (if (wrap64 ((wrap64 ((l1.length : Int) - t103)) - bt106.2.1)) > a0_6 then (some (0, ([] : List Int), 3)) else (if 0 ≤ bt106.2.1 then (if bt106.2.1 ≤ (wrap64 ((l1.length : Int) - t103)) then (some (bt106.1, ((l1.take ((wrap64 ((l1.length : Int) - t103)) : Int).toNat).drop (bt106.2.1 : Int).toNat), 0)) else (none)) else (none))) else (some (0, ([] : List Int), bt106.2.2)))) else (none)) else (none)) else (some (0, ([] : List Int), 6))))))) = some (r1, r2, r3) := H
  have A3 := Aside0.mk A30
  clear A30
  by_cases c4 : (l1.length : Int) > t102
  · rw [if_pos c4] at H
    have c4b0 : decide (t102 < (l1.length : Int)) = true := decide_eq_true c4
    clear c4
    simp only [Option.some.injEq, Prod.mk.injEq] at H
    obtain ⟨rfl, rfl, rfl⟩ := H
    go_enter Tryd.func53, Tryd.ntmps53
    go_wp2_with (first | ((with_reducible refine gate_dst (N := 2) rfl ?_); refine box_event ?hg (N := 2) ?hd (cs := #[.bool a0_0, .bool a0_1, .bool a0_2, .bool a0_3, .int .u32 a0_4, .int .u32 a0_5, .int .i64 a0_6]) (t := 24) ?hr ?_; (case hd => rfl); (case hg => rfl); (case hr => first | (go_simp; done) | (go_simp; rfl)); intro gb101 hg w5 hbox hb; have n0_ := Aside0.mk (below_step (by repeat (first | (with_reducible first | exact HB.out | apply below_alloc | apply pw_below_drewN | apply below_drew1) | exact HB.out)) hb); have n1_ := Aside0.mk (hbox); have n2_ := Aside0.mk ((by rw [hg]; exact (below_size (by repeat (first | (with_reducible first | exact HB.out | apply below_alloc | apply pw_below_drewN | apply below_drew1) | exact HB.out))) : w.heap.size ≤ gb101)); have n3_ := Aside0.mk ((by rw [hg]; exact (below_size (by repeat (first | (with_reducible first | exact HB.out | apply below_alloc | apply pw_below_drewN | apply below_drew1) | exact HB.out))) : w.heap.size ≤ gb101)); clear HB; have HB := n0_; have BK101 := n1_; have GW101 := n2_; have GE101 := n3_; clear n0_ n1_ n2_ n3_; clear hb hbox hg; have hcz6_0 : w5.cell? ⟨gb101, 0, none⟩ = some (.bool a0_0) := (blk_cell BK101.out 0).trans rfl; have hcz6_1 : w5.cell? ⟨gb101, 1, none⟩ = some (.bool a0_1) := (blk_cell BK101.out 1).trans rfl; have hcz6_2 : w5.cell? ⟨gb101, 2, none⟩ = some (.bool a0_2) := (blk_cell BK101.out 2).trans rfl; have hcz6_3 : w5.cell? ⟨gb101, 3, none⟩ = some (.bool a0_3) := (blk_cell BK101.out 3).trans rfl; have hcz6_4 : w5.cell? ⟨gb101, 4, none⟩ = some (.int .u32 a0_4) := (blk_cell BK101.out 4).trans rfl; have hcz6_5 : w5.cell? ⟨gb101, 5, none⟩ = some (.int .u32 a0_5) := (blk_cell BK101.out 5).trans rfl; have hcz6_6 : w5.cell? ⟨gb101, 6, none⟩ = some (.int .i64 a0_6) := (blk_cell BK101.out 6).trans rfl; have hfz6_0 := blk_frozen BK101.out 0; have hfz6_1 := blk_frozen BK101.out 1; have hfz6_2 := blk_frozen BK101.out 2; have hfz6_3 := blk_frozen BK101.out 3; have hfz6_4 := blk_frozen BK101.out 4; have hfz6_5 := blk_frozen BK101.out 5; have hfz6_6 := blk_frozen BK101.out 6) | ((with_reducible refine gate_callee (f := 21) rfl ?_); refine goesL_ (some 14) rfl rfl Tryd.func21 (by kernel_rfl) rfl #[.agg #[.bool a0_0, .bool a0_1, .bool a0_2, .bool a0_3, .int .u32 a0_4, .int .u32 a0_5, .int .i64 a0_6]] rfl (by (try simp only [List.map_toArray, List.map_cons, List.map_nil]); first | done | rfl | (simp only [List.length_drop, List.length_take]; rfl)) ?_; (with_reducible refine (marlineref08_Most.calls a0_0 a0_1 a0_2 a0_3 a0_4 a0_5 a0_6 t102 _ A3.out).mono ?_); rintro e w7 ⟨rfl, hb⟩; refine ⟨_, rfl, ?_⟩; have n0_ := Aside0.mk (blk_below (g := gb101) (o := .cells #[.bool a0_0, .bool a0_1, .bool a0_2, .bool a0_3, .int .u32 a0_4, .int .u32 a0_5, .int .i64 a0_6] 24 (0, 0)) (by (with_reducible repeat (first | refine blk_drewN ?_ _ | refine blk_drew ?_ | refine blk_alloc ?_ _)); exact BK101.out) hb); have n1_ := Aside0.mk (below_step (by repeat (first | (with_reducible first | exact HB.out | apply below_alloc | apply pw_below_drewN | apply below_drew1 | refine below_set ?_ GE101.out) | exact HB.out)) hb); clear BK101; clear HB; have BK101 := n0_; have HB := n1_; clear n0_ n1_; (try clear hb); (try clear hb2); (try clear hk); (try clear hi)))
    go_ret3
    exact ⟨none, 0, by first | rfl | (simp [errW_none, errW_some] <;> rfl) | (simp [*, errW_none, errW_some] <;> rfl), c_nil _, Nat.zero_le _, by repeat (first | (with_reducible first | exact HB.out | apply below_alloc | apply pw_below_drewN | apply below_drew1 | refine below_set ?_ GE101.out) | exact HB.out)⟩
  · rw [if_neg c4] at H
    have c4b0 : decide (t102 < (l1.length : Int)) = false := decide_eq_false c4
    clear c4
    replace H := Option.bind_eq_some_iff.mp H
    obtain ⟨t103, A80, H⟩ := H
    replace H : (if (wrap64 ((l1.length : Int) - t103)) ≤ 0 then (some (0, ([] : List Int), 2)) else ((marlineref02_Good.f k a0_1 l1).bind fun t104 => (if t104 = true then (if 0 ≤ (wrap64 ((l1.length : Int) - t103)) then (if (wrap64 ((l1.length : Int) - t103)) ≤ (l1.length : Int) then ((marlineref10_Get.f k a0_0 a0_1 a0_2 a0_3 a0_4 a0_5 a0_6 (l1.take ((wrap64 ((l1.length : Int) - t103)) : Int).toNat)).bind fun bt106 => (if bt106.2.2 = 0 then (if (wrap64 ((wrap64 ((l1.length : Int) - t103)) - bt106.2.1)) > a0_6 then (some (0, ([] : List Int), 3)) else (if 0 ≤ bt106.2.1 then (if bt106.2.1 ≤ (wrap64 ((l1.length : Int) - t103)) then (some (bt106.1, ((l1.take ((wrap64 ((l1.length : Int) - t103)) : Int).toNat).drop (bt106.2.1 : Int).toNat), 0)) else (none)) else (none))) else (some (0, ([] : List Int), bt106.2.2)))) else (none)) else (none)) else (some (0, ([] : List Int), 6))))) = some (r1, r2, r3) := H
    have A8 := Aside0.mk A80
    clear A80
    by_cases c9 : (wrap64 ((l1.length : Int) - t103)) ≤ 0
    · rw [if_pos c9] at H
      have c9b0 : decide ((wrap64 ((l1.length : Int) - t103)) ≤ 0) = true := decide_eq_true c9
      clear c9
      simp only [Option.some.injEq, Prod.mk.injEq] at H
      obtain ⟨rfl, rfl, rfl⟩ := H
      go_enter Tryd.func53, Tryd.ntmps53
      go_wp2_with (first | ((with_reducible refine gate_dst (N := 2) rfl ?_); refine box_event ?hg (N := 2) ?hd (cs := #[.bool a0_0, .bool a0_1, .bool a0_2, .bool a0_3, .int .u32 a0_4, .int .u32 a0_5, .int .i64 a0_6]) (t := 24) ?hr ?_; (case hd => rfl); (case hg => rfl); (case hr => first | (go_simp; done) | (go_simp; rfl)); intro gb101 hg w10 hbox hb; have n0_ := Aside0.mk (below_step (by repeat (first | (with_reducible first | exact HB.out | apply below_alloc | apply pw_below_drewN | apply below_drew1) | exact HB.out)) hb); have n1_ := Aside0.mk (hbox); have n2_ := Aside0.mk ((by rw [hg]; exact (below_size (by repeat (first | (with_reducible first | exact HB.out | apply below_alloc | apply pw_below_drewN | apply below_drew1) | exact HB.out))) : w.heap.size ≤ gb101)); have n3_ := Aside0.mk ((by rw [hg]; exact (below_size (by repeat (first | (with_reducible first | exact HB.out | apply below_alloc | apply pw_below_drewN | apply below_drew1) | exact HB.out))) : w.heap.size ≤ gb101)); clear HB; have HB := n0_; have BK101 := n1_; have GW101 := n2_; have GE101 := n3_; clear n0_ n1_ n2_ n3_; clear hb hbox hg; have hcz11_0 : w10.cell? ⟨gb101, 0, none⟩ = some (.bool a0_0) := (blk_cell BK101.out 0).trans rfl; have hcz11_1 : w10.cell? ⟨gb101, 1, none⟩ = some (.bool a0_1) := (blk_cell BK101.out 1).trans rfl; have hcz11_2 : w10.cell? ⟨gb101, 2, none⟩ = some (.bool a0_2) := (blk_cell BK101.out 2).trans rfl; have hcz11_3 : w10.cell? ⟨gb101, 3, none⟩ = some (.bool a0_3) := (blk_cell BK101.out 3).trans rfl; have hcz11_4 : w10.cell? ⟨gb101, 4, none⟩ = some (.int .u32 a0_4) := (blk_cell BK101.out 4).trans rfl; have hcz11_5 : w10.cell? ⟨gb101, 5, none⟩ = some (.int .u32 a0_5) := (blk_cell BK101.out 5).trans rfl; have hcz11_6 : w10.cell? ⟨gb101, 6, none⟩ = some (.int .i64 a0_6) := (blk_cell BK101.out 6).trans rfl; have hfz11_0 := blk_frozen BK101.out 0; have hfz11_1 := blk_frozen BK101.out 1; have hfz11_2 := blk_frozen BK101.out 2; have hfz11_3 := blk_frozen BK101.out 3; have hfz11_4 := blk_frozen BK101.out 4; have hfz11_5 := blk_frozen BK101.out 5; have hfz11_6 := blk_frozen BK101.out 6) | ((with_reducible refine gate_callee (f := 21) rfl ?_); refine goesL_ (some 14) rfl rfl Tryd.func21 (by kernel_rfl) rfl #[.agg #[.bool a0_0, .bool a0_1, .bool a0_2, .bool a0_3, .int .u32 a0_4, .int .u32 a0_5, .int .i64 a0_6]] rfl (by (try simp only [List.map_toArray, List.map_cons, List.map_nil]); first | done | rfl | (simp only [List.length_drop, List.length_take]; rfl)) ?_; (with_reducible refine (marlineref08_Most.calls a0_0 a0_1 a0_2 a0_3 a0_4 a0_5 a0_6 t102 _ A3.out).mono ?_); rintro e w12 ⟨rfl, hb⟩; refine ⟨_, rfl, ?_⟩; have n0_ := Aside0.mk (blk_below (g := gb101) (o := .cells #[.bool a0_0, .bool a0_1, .bool a0_2, .bool a0_3, .int .u32 a0_4, .int .u32 a0_5, .int .i64 a0_6] 24 (0, 0)) (by (with_reducible repeat (first | refine blk_drewN ?_ _ | refine blk_drew ?_ | refine blk_alloc ?_ _)); exact BK101.out) hb); have n1_ := Aside0.mk (below_step (by repeat (first | (with_reducible first | exact HB.out | apply below_alloc | apply pw_below_drewN | apply below_drew1 | refine below_set ?_ GE101.out) | exact HB.out)) hb); clear BK101; clear HB; have BK101 := n0_; have HB := n1_; clear n0_ n1_; (try clear hb); (try clear hb2); (try clear hk); (try clear hi); have hcz13_0 : w12.cell? ⟨gb101, 0, none⟩ = some (.bool a0_0) := (blk_cell BK101.out 0).trans rfl; have hcz13_1 : w12.cell? ⟨gb101, 1, none⟩ = some (.bool a0_1) := (blk_cell BK101.out 1).trans rfl; have hcz13_2 : w12.cell? ⟨gb101, 2, none⟩ = some (.bool a0_2) := (blk_cell BK101.out 2).trans rfl; have hcz13_3 : w12.cell? ⟨gb101, 3, none⟩ = some (.bool a0_3) := (blk_cell BK101.out 3).trans rfl; have hcz13_4 : w12.cell? ⟨gb101, 4, none⟩ = some (.int .u32 a0_4) := (blk_cell BK101.out 4).trans rfl; have hcz13_5 : w12.cell? ⟨gb101, 5, none⟩ = some (.int .u32 a0_5) := (blk_cell BK101.out 5).trans rfl; have hcz13_6 : w12.cell? ⟨gb101, 6, none⟩ = some (.int .i64 a0_6) := (blk_cell BK101.out 6).trans rfl; have hfz13_0 := blk_frozen BK101.out 0; have hfz13_1 := blk_frozen BK101.out 1; have hfz13_2 := blk_frozen BK101.out 2; have hfz13_3 := blk_frozen BK101.out 3; have hfz13_4 := blk_frozen BK101.out 4; have hfz13_5 := blk_frozen BK101.out 5; have hfz13_6 := blk_frozen BK101.out 6) | ((with_reducible refine gate_callee (f := 46) rfl ?_); refine goesL_ (some 20) rfl rfl Tryd.func46 (by kernel_rfl) rfl #[.bool a0_1] rfl (by (try simp only [List.map_toArray, List.map_cons, List.map_nil]); first | done | rfl | (simp only [List.length_drop, List.length_take]; rfl)) ?_; (with_reducible refine (marlineref02_Size.calls a0_1 t103 _ A8.out).mono ?_); rintro e w' ⟨rfl, ⟨nd, rfl⟩⟩; refine ⟨_, rfl, ?_⟩))
      go_ret3
      exact ⟨none, 0, by first | rfl | (simp [errW_none, errW_some] <;> rfl) | (simp [*, errW_none, errW_some] <;> rfl), c_nil _, Nat.zero_le _, by repeat (first | (with_reducible first | exact HB.out | apply below_alloc | apply pw_below_drewN | apply below_drew1 | refine below_set ?_ GE101.out) | exact HB.out)⟩
    · rw [if_neg c9] at H
      have c9b0 : decide ((wrap64 ((l1.length : Int) - t103)) ≤ 0) = false := decide_eq_false c9
      clear c9
      replace H := Option.bind_eq_some_iff.mp H
      obtain ⟨t104, A140, H⟩ := H
      replace H : (if t104 = true then (if 0 ≤ (wrap64 ((l1.length : Int) - t103)) then (if (wrap64 ((l1.length : Int) - t103)) ≤ (l1.length : Int) then ((marlineref10_Get.f k a0_0 a0_1 a0_2 a0_3 a0_4 a0_5 a0_6 (l1.take ((wrap64 ((l1.length : Int) - t103)) : Int).toNat)).bind fun bt106 => (if bt106.2.2 = 0 then (if (wrap64 ((wrap64 ((l1.length : Int) - t103)) - bt106.2.1)) > a0_6 then (some (0, ([] : List Int), 3)) else (if 0 ≤ bt106.2.1 then (if bt106.2.1 ≤ (wrap64 ((l1.length : Int) - t103)) then (some (bt106.1, ((l1.take ((wrap64 ((l1.length : Int) - t103)) : Int).toNat).drop (bt106.2.1 : Int).toNat), 0)) else (none)) else (none))) else (some (0, ([] : List Int), bt106.2.2)))) else (none)) else (none)) else (some (0, ([] : List Int), 6))) = some (r1, r2, r3) := H
      have A14 := Aside0.mk A140
      clear A140
      by_cases c15 : t104 = true
      · subst c15
        have H1 : (if 0 ≤ (wrap64 ((l1.length : Int) - t103)) then (if (wrap64 ((l1.length : Int) - t103)) ≤ (l1.length : Int) then ((marlineref10_Get.f k a0_0 a0_1 a0_2 a0_3 a0_4 a0_5 a0_6 (l1.take ((wrap64 ((l1.length : Int) - t103)) : Int).toNat)).bind fun bt106 => (if bt106.2.2 = 0 then (if (wrap64 ((wrap64 ((l1.length : Int) - t103)) - bt106.2.1)) > a0_6 then (some (0, ([] : List Int), 3)) else (if 0 ≤ bt106.2.1 then (if bt106.2.1 ≤ (wrap64 ((l1.length : Int) - t103)) then (some (bt106.1, ((l1.take ((wrap64 ((l1.length : Int) - t103)) : Int).toNat).drop (bt106.2.1 : Int).toNat), 0)) else (none)) else (none))) else (some (0, ([] : List Int), bt106.2.2)))) else (none)) else (none)) = some (r1, r2, r3) := by rw [if_pos rfl] at H; exact H
        clear H
        have H := H1
        clear H1
        obtain ⟨ji16, hji16⟩ : ∃ j_ : Int, (wrap64 ((l1.length : Int) - t103)) = j_ := ⟨_, rfl⟩
        replace H : (if 0 ≤ (ji16) then (if (ji16) ≤ (l1.length : Int) then ((marlineref10_Get.f k a0_0 a0_1 a0_2 a0_3 a0_4 a0_5 a0_6 (l1.take ((ji16) : Int).toNat)).bind fun bt106 => (if bt106.2.2 = 0 then (if (wrap64 ((ji16) - bt106.2.1)) > a0_6 then (some (0, ([] : List Int), 3)) else (if 0 ≤ bt106.2.1 then (if bt106.2.1 ≤ (ji16) then (some (bt106.1, ((l1.take ((ji16) : Int).toNat).drop (bt106.2.1 : Int).toNat), 0)) else (none)) else (none))) else (some (0, ([] : List Int), bt106.2.2)))) else (none)) else (none)) = some (r1, r2, r3) := by first | (rw [hji16] at H; exact H) | (simp only [hji16] at H ⊢; exact H)
        (try rw [hji16] at c9b0)
        (try rw [hji16] at A3)
        (try rw [hji16] at A8)
        (try rw [hji16] at A14)
        have hji16w : (IntKind.i64.wrap ((l1.length : Int) - t103)) = ji16 := (i64_w _).trans hji16
        by_cases c17 : 0 ≤ (ji16)
        · rw [if_pos c17] at H
          have c17b0 := eq_true c17
          have c17b1 : decide (0 ≤ (ji16)) = true := decide_eq_true c17
          clear c17
          by_cases c18 : (ji16) ≤ (l1.length : Int)
          · rw [if_pos c18] at H
            have c18b0 := eq_true c18
            have c18b1 : decide ((ji16) ≤ (l1.length : Int)) = true := decide_eq_true c18
            clear c18
            replace H := Option.bind_eq_some_iff.mp H
            obtain ⟨⟨t106, t107, t108⟩, A190, H⟩ := H
            replace H : (if t108 = 0 then (if (wrap64 ((ji16) - t107)) > a0_6 then (some (0, ([] : List Int), 3)) else (if 0 ≤ t107 then (if t107 ≤ (ji16) then (some (t106, ((l1.take ((ji16) : Int).toNat).drop (t107 : Int).toNat), 0)) else (none)) else (none))) else (some (0, ([] : List Int), t108))) = some (r1, r2, r3) := H
            have A19 := Aside0.mk A190
            clear A190
            by_cases c20 : t108 = 0
            · rw [if_pos c20] at H
              have c20b0 : (t108 == 0) = true := beq_iff_eq.mpr c20
              have c20b1 : (t108 != 0) = false := bne_eq_false_iff_eq.mpr c20
              clear c20
              by_cases c21 : (wrap64 ((ji16) - t107)) > a0_6
              · rw [if_pos c21] at H
                have c21b0 : decide (a0_6 < (wrap64 ((ji16) - t107))) = true := decide_eq_true c21
                clear c21
                simp only [Option.some.injEq, Prod.mk.injEq] at H
                obtain ⟨rfl, rfl, rfl⟩ := H
                go_enter Tryd.func53, Tryd.ntmps53
                try go_wp2_with (first | ((with_reducible refine gate_dst (N := 2) rfl ?_); refine box_event ?hg (N := 2) ?hd (cs := #[.bool a0_0, .bool a0_1, .bool a0_2, .bool a0_3, .int .u32 a0_4, .int .u32 a0_5, .int .i64 a0_6]) (t := 24) ?hr ?_; (case hd => rfl); (case hg => rfl); (case hr => first | (go_simp; done) | (go_simp; rfl)); intro gb101 hg w22 hbox hb; have n0_ := Aside0.mk (below_step (by repeat (first | (with_reducible first | exact HB.out | apply below_alloc | apply pw_below_drewN | apply below_drew1) | exact HB.out)) hb); have n1_ := Aside0.mk (hbox); have n2_ := Aside0.mk ((by rw [hg]; exact (below_size (by repeat (first | (with_reducible first | exact HB.out | apply below_alloc | apply pw_below_drewN | apply below_drew1) | exact HB.out))) : w.heap.size ≤ gb101)); have n3_ := Aside0.mk ((by rw [hg]; exact (below_size (by repeat (first | (with_reducible first | exact HB.out | apply below_alloc | apply pw_below_drewN | apply below_drew1) | exact HB.out))) : w.heap.size ≤ gb101)); clear HB; have HB := n0_; have BK101 := n1_; have GW101 := n2_; have GE101 := n3_; clear n0_ n1_ n2_ n3_; clear hb hbox hg; have hcz23_0 : w22.cell? ⟨gb101, 0, none⟩ = some (.bool a0_0) := (blk_cell BK101.out 0).trans rfl; have hcz23_1 : w22.cell? ⟨gb101, 1, none⟩ = some (.bool a0_1) := (blk_cell BK101.out 1).trans rfl; have hcz23_2 : w22.cell? ⟨gb101, 2, none⟩ = some (.bool a0_2) := (blk_cell BK101.out 2).trans rfl; have hcz23_3 : w22.cell? ⟨gb101, 3, none⟩ = some (.bool a0_3) := (blk_cell BK101.out 3).trans rfl; have hcz23_4 : w22.cell? ⟨gb101, 4, none⟩ = some (.int .u32 a0_4) := (blk_cell BK101.out 4).trans rfl; have hcz23_5 : w22.cell? ⟨gb101, 5, none⟩ = some (.int .u32 a0_5) := (blk_cell BK101.out 5).trans rfl; have hcz23_6 : w22.cell? ⟨gb101, 6, none⟩ = some (.int .i64 a0_6) := (blk_cell BK101.out 6).trans rfl; have hfz23_0 := blk_frozen BK101.out 0; have hfz23_1 := blk_frozen BK101.out 1; have hfz23_2 := blk_frozen BK101.out 2; have hfz23_3 := blk_frozen BK101.out 3; have hfz23_4 := blk_frozen BK101.out 4; have hfz23_5 := blk_frozen BK101.out 5; have hfz23_6 := blk_frozen BK101.out 6) | ((with_reducible refine gate_callee (f := 21) rfl ?_); refine goesL_ (some 14) rfl rfl Tryd.func21 (by kernel_rfl) rfl #[.agg #[.bool a0_0, .bool a0_1, .bool a0_2, .bool a0_3, .int .u32 a0_4, .int .u32 a0_5, .int .i64 a0_6]] rfl (by (try simp only [List.map_toArray, List.map_cons, List.map_nil]); first | done | rfl | (simp only [List.length_drop, List.length_take]; rfl)) ?_; (with_reducible refine (marlineref08_Most.calls a0_0 a0_1 a0_2 a0_3 a0_4 a0_5 a0_6 t102 _ A3.out).mono ?_); rintro e w24 ⟨rfl, hb⟩; refine ⟨_, rfl, ?_⟩; have n0_ := Aside0.mk (blk_below (g := gb101) (o := .cells #[.bool a0_0, .bool a0_1, .bool a0_2, .bool a0_3, .int .u32 a0_4, .int .u32 a0_5, .int .i64 a0_6] 24 (0, 0)) (by (with_reducible repeat (first | refine blk_drewN ?_ _ | refine blk_drew ?_ | refine blk_alloc ?_ _)); exact BK101.out) hb); have n1_ := Aside0.mk (below_step (by repeat (first | (with_reducible first | exact HB.out | apply below_alloc | apply pw_below_drewN | apply below_drew1 | refine below_set ?_ GE101.out) | exact HB.out)) hb); clear BK101; clear HB; have BK101 := n0_; have HB := n1_; clear n0_ n1_; (try clear hb); (try clear hb2); (try clear hk); (try clear hi); have hcz25_0 : w24.cell? ⟨gb101, 0, none⟩ = some (.bool a0_0) := (blk_cell BK101.out 0).trans rfl; have hcz25_1 : w24.cell? ⟨gb101, 1, none⟩ = some (.bool a0_1) := (blk_cell BK101.out 1).trans rfl; have hcz25_2 : w24.cell? ⟨gb101, 2, none⟩ = some (.bool a0_2) := (blk_cell BK101.out 2).trans rfl; have hcz25_3 : w24.cell? ⟨gb101, 3, none⟩ = some (.bool a0_3) := (blk_cell BK101.out 3).trans rfl; have hcz25_4 : w24.cell? ⟨gb101, 4, none⟩ = some (.int .u32 a0_4) := (blk_cell BK101.out 4).trans rfl; have hcz25_5 : w24.cell? ⟨gb101, 5, none⟩ = some (.int .u32 a0_5) := (blk_cell BK101.out 5).trans rfl; have hcz25_6 : w24.cell? ⟨gb101, 6, none⟩ = some (.int .i64 a0_6) := (blk_cell BK101.out 6).trans rfl; have hfz25_0 := blk_frozen BK101.out 0; have hfz25_1 := blk_frozen BK101.out 1; have hfz25_2 := blk_frozen BK101.out 2; have hfz25_3 := blk_frozen BK101.out 3; have hfz25_4 := blk_frozen BK101.out 4; have hfz25_5 := blk_frozen BK101.out 5; have hfz25_6 := blk_frozen BK101.out 6) | ((with_reducible refine gate_callee (f := 46) rfl ?_); refine goesL_ (some 20) rfl rfl Tryd.func46 (by kernel_rfl) rfl #[.bool a0_1] rfl (by (try simp only [List.map_toArray, List.map_cons, List.map_nil]); first | done | rfl | (simp only [List.length_drop, List.length_take]; rfl)) ?_; (with_reducible refine (marlineref02_Size.calls a0_1 t103 _ A8.out).mono ?_); rintro e w' ⟨rfl, ⟨nd, rfl⟩⟩; refine ⟨_, rfl, ?_⟩) | ((with_reducible refine gate_callee (f := 45) rfl ?_); refine goesL_ (some 27) rfl rfl Tryd.func45 (by kernel_rfl) rfl #[.bool a0_1, .slice A1 l1.length c1] rfl (by (try simp only [List.map_toArray, List.map_cons, List.map_nil]); first | done | rfl | (simp only [List.length_drop, List.length_take]; rfl)) ?_; (with_reducible refine (marlineref02_Good.calls k a0_1 _ _ l1 true _ ?side1 ?side2 A14.out).mono ?_); (case side1 => repeat (first | exact (Kd.C_below HR1.out (by repeat (first | (with_reducible first | exact HB.out | apply below_alloc | apply pw_below_drewN | apply below_drew1 | refine below_set ?_ GE101.out) | exact HB.out))) | (with_reducible refine Kd.C_alloc ?_ _) | (with_reducible refine Kd.C_drewN ?_ _) | (with_reducible refine Kd.C_drew ?_))); (case side2 => exact HC1.out); rintro e w26 ⟨rfl, hb⟩; refine ⟨_, rfl, ?_⟩; have n0_ := Aside0.mk (blk_below (g := gb101) (o := .cells #[.bool a0_0, .bool a0_1, .bool a0_2, .bool a0_3, .int .u32 a0_4, .int .u32 a0_5, .int .i64 a0_6] 24 (0, 0)) (by (with_reducible repeat (first | refine blk_drewN ?_ _ | refine blk_drew ?_ | refine blk_alloc ?_ _)); exact BK101.out) hb); have n1_ := Aside0.mk (below_step (by repeat (first | (with_reducible first | exact HB.out | apply below_alloc | apply pw_below_drewN | apply below_drew1 | refine below_set ?_ GE101.out) | exact HB.out)) hb); clear BK101; clear HB; have BK101 := n0_; have HB := n1_; clear n0_ n1_; (try clear hb); (try clear hb2); (try clear hk); (try clear hi)))
                have n0_ := Aside0.mk (blk_drew BK101.out)
                have n1_ := Aside0.mk (below_drew1 HB.out)
                clear BK101
                clear HB
                have BK101 := n0_
                have HB := n1_
                clear n0_ n1_
                obtain ⟨i028, hi028, _, hsz28, _⟩ := info_parts info5
                obtain ⟨hcut28, hA28, hC28⟩ := print_take_of (P := Tryd.prog) (Value.int .u8) 0 35 5 .i64 Tryd.underlying35 hi028 hsz28 A1 c1 l1 (ji16) (of_decide_eq_true (by first | (with_reducible assumption) | assumption)) (of_decide_eq_true (by first | (with_reducible assumption) | assumption)) HC1.out
                have HR105 := Aside0.mk (Kd.C_of_reads (h1 := fun _ => rfl) (hA28 _ (Kd.reads_of_C HR1.out)))
                have HC105 := Aside0.mk hC28
                clear hA28 hC28 hi028 hsz28
                refine start_ (n := 12) (S := fun w' => w'.cell? ⟨gb101, 0, none⟩ = some (.bool a0_0) ∧ w'.cell? ⟨gb101, 1, none⟩ = some (.bool a0_1) ∧ w'.cell? ⟨gb101, 2, none⟩ = some (.bool a0_2) ∧ w'.cell? ⟨gb101, 3, none⟩ = some (.bool a0_3) ∧ w'.cell? ⟨gb101, 4, none⟩ = some (.int .u32 a0_4) ∧ w'.cell? ⟨gb101, 5, none⟩ = some (.int .u32 a0_5) ∧ w'.cell? ⟨gb101, 6, none⟩ = some (.int .i64 a0_6)) (ds := []) #[false, false, false, false, false, false, false, false, false, false, false, false] (by kernel_rfl) rfl rfl ⟨(blk_cell BK101.out 0).trans rfl, (blk_cell BK101.out 1).trans rfl, (blk_cell BK101.out 2).trans rfl, (blk_cell BK101.out 3).trans rfl, (blk_cell BK101.out 4).trans rfl, (blk_cell BK101.out 5).trans rfl, (blk_cell BK101.out 6).trans rfl⟩ (fun hHeld => ?_); refine with_tabW marlineref11_Parse.tab8 marlineref11_Parse.bits8 (fun HT_ HW_ => ?_)
                generalize w26.drew = w27 at BK101 HB HR105 hHeld ⊢
                refine pure_ (i := 1) (N := some 31) (v := ?_) (a' := ?_) #[false, true, false, false, false, false, false, false, false, false, false, false] rfl rfl (any_of HT_.out (by kernel_rfl)) (fun _ _ _ h => h) (Or.inl ⟨by rfl, ?_⟩) ?_ ?_
                rotate_left
                · intro w'
                  go_simp
                  with_reducible rfl
                rotate_left
                · simp only [Act.put, List.setIfInBounds_toArray, List.set_cons_zero, List.set_cons_succ, i64_w, i32_w]
                  rfl
                refine pure_ (i := 2) (N := some 32) (v := ?_) (a' := ?_) #[false, true, true, false, false, false, false, false, false, false, false, false] rfl rfl (any_of HT_.out (by kernel_rfl)) (fun _ _ _ h => h) (Or.inl ⟨by rfl, ?_⟩) ?_ ?_
                rotate_left
                · intro w'
                  go_simp
                  with_reducible rfl
                rotate_left
                · simp only [Act.put, List.setIfInBounds_toArray, List.set_cons_zero, List.set_cons_succ, i64_w, i32_w]
                  rfl
                refine pure_ (i := 3) (N := some 33) (v := ?_) (a' := ?_) #[false, true, true, true, false, false, false, false, false, false, false, false] rfl rfl (any_of HT_.out (by kernel_rfl)) (fun _ _ _ h => h) (Or.inl ⟨by rfl, ?_⟩) ?_ ?_
                rotate_left
                · intro w'
                  go_simp
                  with_reducible rfl
                rotate_left
                · simp only [Act.put, List.setIfInBounds_toArray, List.set_cons_zero, List.set_cons_succ, i64_w, i32_w]
                  rfl
                refine take_ (i := 0) (N := some 30) (v := ?_) (a' := ?_) #[true, true, true, true, false, false, false, false, false, false, false, false] rfl rfl (take_ofW HT_.out HW_.out (by kernel_rfl)) (fun _ _ _ h => h) (Or.inl ⟨by rfl, ?_⟩) hHeld ?_ ?_
                rotate_left
                · rintro w' ⟨s0, s1, s2, s3, s4, s5, s6⟩
                  go_simp
                  with_reducible rfl
                rotate_left
                · simp only [Act.put, List.setIfInBounds_toArray, List.set_cons_zero, List.set_cons_succ, i64_w, i32_w]
                  rfl
                refine one_ (i := 4) (N := some 34) #[true, true, true, true, true, false, false, false, false, false, false, false] rfl rfl (one_of HT_.out (by kernel_rfl)) (by decide) (fun K hK => ?_)
                refine goes_ Tryd.func30 (by kernel_rfl) rfl #[.agg #[.bool a0_0, .bool a0_1, .bool a0_2, .bool a0_3, .int .u32 a0_4, .int .u32 a0_5, .int .i64 a0_6], .slice A1 (l1.take ((ji16) : Int).toNat).length c1] (by rfl) rfl rfl (by (try simp only [List.map_toArray, List.map_cons, List.map_nil]); first | done | (rw [show (l1.take ((ji16) : Int).toNat).length = (ji16).toNat from (by rw [List.length_take]; have h_ : ((ji16) : Int) ≤ (l1.length : Int) := of_decide_eq_true (by first | (with_reducible assumption) | assumption); omega)] <;> rfl) | (simp only [hji16]; rfl) | rfl | (simp only [List.length_drop, List.length_take]; rfl)) ?_
                with_reducible refine (marlineref10_Get.calls k a0_0 a0_1 a0_2 a0_3 a0_4 a0_5 a0_6 _ _ (l1.take ((ji16) : Int).toNat) t106 t107 t108 _ ?side1 ?side2 A19.out).mono ?_
                (case side1 => repeat (first | exact (Kd.C_below HR105.out HB.out) | (with_reducible refine Kd.C_alloc ?_ _) | (with_reducible refine Kd.C_drewN ?_ _) | (with_reducible refine Kd.C_drew ?_)))
                (case side2 => exact HC105.out)
                rintro e w29 ⟨rfl, hb⟩
                refine ⟨_, rfl, ?_⟩
                have n0_ := Aside0.mk (blk_below (g := gb101) (o := .cells #[.bool a0_0, .bool a0_1, .bool a0_2, .bool a0_3, .int .u32 a0_4, .int .u32 a0_5, .int .i64 a0_6] 24 (0, 0)) (by (with_reducible repeat (first | refine blk_drewN ?_ _ | refine blk_drew ?_ | refine blk_alloc ?_ _)); exact BK101.out) hb)
                have n1_ := Aside0.mk (below_step (by repeat (first | (with_reducible first | exact HB.out | apply below_alloc | apply pw_below_drewN | apply below_drew1 | refine below_set ?_ GE101.out) | exact HB.out)) hb)
                clear BK101
                clear HB
                have BK101 := n0_
                have HB := n1_
                clear n0_ n1_
                (try clear hb)
                (try clear hb2)
                (try clear hk)
                (try clear hi)
                refine hK.out _ _ ⟨(blk_cell BK101.out 0).trans rfl, (blk_cell BK101.out 1).trans rfl, (blk_cell BK101.out 2).trans rfl, (blk_cell BK101.out 3).trans rfl, (blk_cell BK101.out 4).trans rfl, (blk_cell BK101.out 5).trans rfl, (blk_cell BK101.out 6).trans rfl⟩ (fun hHeld => ?_)
                clear hK K
                refine norm_ (a' := ?_) ?_ ?_
                rotate_left
                · show Act.put _ (some 34) _ = _
                  simp only [Act.put, List.setIfInBounds_toArray, List.set_cons_zero, List.set_cons_succ, i64_w, i32_w]
                  rfl
                refine pure_ (i := 5) (N := some 29) (v := ?_) (a' := ?_) #[true, true, true, true, true, true, false, false, false, false, false, false] rfl rfl (any_of HT_.out (by kernel_rfl)) (fun _ _ _ h => h) (Or.inl ⟨by rfl, ?_⟩) ?_ ?_
                rotate_left
                · intro w'
                  go_simp
                  with_reducible rfl
                rotate_left
                · simp only [Act.put, List.setIfInBounds_toArray, List.set_cons_zero, List.set_cons_succ, i64_w, i32_w]
                  rfl
                refine pure_ (i := 6) (N := some 35) (v := ?_) (a' := ?_) #[true, true, true, true, true, true, true, false, false, false, false, false] rfl rfl (any_of HT_.out (by kernel_rfl)) (fun _ _ _ h => h) (Or.inl ⟨by rfl, ?_⟩) ?_ ?_
                rotate_left
                · intro w'
                  go_simp
                  with_reducible rfl
                rotate_left
                · simp only [Act.put, List.setIfInBounds_toArray, List.set_cons_zero, List.set_cons_succ, i64_w, i32_w]
                  rfl
                refine pure_ (i := 7) (N := some 36) (v := ?_) (a' := ?_) #[true, true, true, true, true, true, true, true, false, false, false, false] rfl rfl (any_of HT_.out (by kernel_rfl)) (fun _ _ _ h => h) (Or.inl ⟨by rfl, ?_⟩) ?_ ?_
                rotate_left
                · intro w'
                  go_simp
                  with_reducible rfl
                rotate_left
                · simp only [Act.put, List.setIfInBounds_toArray, List.set_cons_zero, List.set_cons_succ, i64_w, i32_w]
                  rfl
                refine pure_ (i := 8) (N := some 37) (v := ?_) (a' := ?_) #[true, true, true, true, true, true, true, true, true, false, false, false] rfl rfl (any_of HT_.out (by kernel_rfl)) (fun _ _ _ h => h) (Or.inl ⟨by rfl, ?_⟩) ?_ ?_
                rotate_left
                · intro w'
                  go_simp
                  with_reducible rfl
                rotate_left
                · simp only [Act.put, List.setIfInBounds_toArray, List.set_cons_zero, List.set_cons_succ, i64_w, i32_w]
                  rfl
                refine pure_ (i := 9) (N := some 8) (v := ?_) (a' := ?_) #[true, true, true, true, true, true, true, true, true, true, false, false] rfl rfl (any_of HT_.out (by kernel_rfl)) (fun _ _ _ h => h) (Or.inl ⟨by rfl, ?_⟩) ?_ ?_
                rotate_left
                · intro w'
                  go_simp
                  with_reducible rfl
                rotate_left
                · simp only [Act.put, List.setIfInBounds_toArray, List.set_cons_zero, List.set_cons_succ, i64_w, i32_w]
                  rfl
                refine pure_ (i := 10) (N := some 9) (v := ?_) (a' := ?_) #[true, true, true, true, true, true, true, true, true, true, true, false] rfl rfl (any_of HT_.out (by kernel_rfl)) (fun _ _ _ h => h) (Or.inl ⟨by rfl, ?_⟩) ?_ ?_
                rotate_left
                · intro w'
                  go_simp
                  with_reducible rfl
                rotate_left
                · simp only [Act.put, List.setIfInBounds_toArray, List.set_cons_zero, List.set_cons_succ, i64_w, i32_w]
                  rfl
                refine pure_ (i := 11) (N := some 10) (v := ?_) (a' := ?_) #[true, true, true, true, true, true, true, true, true, true, true, true] rfl rfl (any_of HT_.out (by kernel_rfl)) (fun _ _ _ h => h) (Or.inl ⟨by rfl, ?_⟩) ?_ ?_
                rotate_left
                · intro w'
                  go_simp
                  with_reducible rfl
                rotate_left
                · simp only [Act.put, List.setIfInBounds_toArray, List.set_cons_zero, List.set_cons_succ, i64_w, i32_w]
                  rfl
                refine done_ (done_of HT_.out (by kernel_rfl)) ?_
                have hcz30_0 : w29.cell? ⟨gb101, 0, none⟩ = some (.bool a0_0) := (blk_cell BK101.out 0).trans rfl
                have hcz30_1 : w29.cell? ⟨gb101, 1, none⟩ = some (.bool a0_1) := (blk_cell BK101.out 1).trans rfl
                have hcz30_2 : w29.cell? ⟨gb101, 2, none⟩ = some (.bool a0_2) := (blk_cell BK101.out 2).trans rfl
                have hcz30_3 : w29.cell? ⟨gb101, 3, none⟩ = some (.bool a0_3) := (blk_cell BK101.out 3).trans rfl
                have hcz30_4 : w29.cell? ⟨gb101, 4, none⟩ = some (.int .u32 a0_4) := (blk_cell BK101.out 4).trans rfl
                have hcz30_5 : w29.cell? ⟨gb101, 5, none⟩ = some (.int .u32 a0_5) := (blk_cell BK101.out 5).trans rfl
                have hcz30_6 : w29.cell? ⟨gb101, 6, none⟩ = some (.int .i64 a0_6) := (blk_cell BK101.out 6).trans rfl
                have hfz30_0 := blk_frozen BK101.out 0
                have hfz30_1 := blk_frozen BK101.out 1
                have hfz30_2 := blk_frozen BK101.out 2
                have hfz30_3 := blk_frozen BK101.out 3
                have hfz30_4 := blk_frozen BK101.out 4
                have hfz30_5 := blk_frozen BK101.out 5
                have hfz30_6 := blk_frozen BK101.out 6
                try go_wp2
                go_ret3
                exact ⟨none, 0, by first | rfl | (simp [errW_none, errW_some] <;> rfl) | (simp only [← hji16]; first | rfl | (simp [errW_none, errW_some] <;> rfl)) | (simp [*, errW_none, errW_some] <;> rfl), c_nil _, Nat.zero_le _, by repeat (first | (with_reducible first | exact HB.out | apply below_alloc | apply pw_below_drewN | apply below_drew1 | refine below_set ?_ GE101.out) | exact HB.out)⟩
              · rw [if_neg c21] at H
                have c21b0 : decide (a0_6 < (wrap64 ((ji16) - t107))) = false := decide_eq_false c21
                clear c21
                by_cases c31 : 0 ≤ t107
                · rw [if_pos c31] at H
                  have c31b0 := eq_true c31
                  have c31b1 : decide (0 ≤ t107) = true := decide_eq_true c31
                  clear c31
                  by_cases c32 : t107 ≤ (ji16)
                  · rw [if_pos c32] at H
                    have c32b0 := eq_true c32
                    have c32b1 : decide (t107 ≤ (ji16)) = true := decide_eq_true c32
                    clear c32
                    obtain ⟨cm1, hcm1⟩ : ∃ m_ : List Int, m_ = ((l1.take ((ji16) : Int).toNat).drop (t107 : Int).toNat) := ⟨_, rfl⟩
                    rw [← hcm1] at H
                    have HCM1 := Aside0.mk hcm1
                    clear hcm1
                    have c33b0 := eq_true (of_decide_eq_true (by first | (with_reducible assumption) | assumption) : (ji16) ≤ (l1.length : Int))
                    simp only [Option.some.injEq, Prod.mk.injEq] at H
                    obtain ⟨rfl, rfl, rfl⟩ := H
                    go_enter Tryd.func53, Tryd.ntmps53
                    try go_wp2_with (first | ((with_reducible refine gate_dst (N := 2) rfl ?_); refine box_event ?hg (N := 2) ?hd (cs := #[.bool a0_0, .bool a0_1, .bool a0_2, .bool a0_3, .int .u32 a0_4, .int .u32 a0_5, .int .i64 a0_6]) (t := 24) ?hr ?_; (case hd => rfl); (case hg => rfl); (case hr => first | (go_simp; done) | (go_simp; rfl)); intro gb101 hg w34 hbox hb; have n0_ := Aside0.mk (below_step (by repeat (first | (with_reducible first | exact HB.out | apply below_alloc | apply pw_below_drewN | apply below_drew1) | exact HB.out)) hb); have n1_ := Aside0.mk (hbox); have n2_ := Aside0.mk ((by rw [hg]; exact (below_size (by repeat (first | (with_reducible first | exact HB.out | apply below_alloc | apply pw_below_drewN | apply below_drew1) | exact HB.out))) : w.heap.size ≤ gb101)); have n3_ := Aside0.mk ((by rw [hg]; exact (below_size (by repeat (first | (with_reducible first | exact HB.out | apply below_alloc | apply pw_below_drewN | apply below_drew1) | exact HB.out))) : w.heap.size ≤ gb101)); clear HB; have HB := n0_; have BK101 := n1_; have GW101 := n2_; have GE101 := n3_; clear n0_ n1_ n2_ n3_; clear hb hbox hg; have hcz35_0 : w34.cell? ⟨gb101, 0, none⟩ = some (.bool a0_0) := (blk_cell BK101.out 0).trans rfl; have hcz35_1 : w34.cell? ⟨gb101, 1, none⟩ = some (.bool a0_1) := (blk_cell BK101.out 1).trans rfl; have hcz35_2 : w34.cell? ⟨gb101, 2, none⟩ = some (.bool a0_2) := (blk_cell BK101.out 2).trans rfl; have hcz35_3 : w34.cell? ⟨gb101, 3, none⟩ = some (.bool a0_3) := (blk_cell BK101.out 3).trans rfl; have hcz35_4 : w34.cell? ⟨gb101, 4, none⟩ = some (.int .u32 a0_4) := (blk_cell BK101.out 4).trans rfl; have hcz35_5 : w34.cell? ⟨gb101, 5, none⟩ = some (.int .u32 a0_5) := (blk_cell BK101.out 5).trans rfl; have hcz35_6 : w34.cell? ⟨gb101, 6, none⟩ = some (.int .i64 a0_6) := (blk_cell BK101.out 6).trans rfl; have hfz35_0 := blk_frozen BK101.out 0; have hfz35_1 := blk_frozen BK101.out 1; have hfz35_2 := blk_frozen BK101.out 2; have hfz35_3 := blk_frozen BK101.out 3; have hfz35_4 := blk_frozen BK101.out 4; have hfz35_5 := blk_frozen BK101.out 5; have hfz35_6 := blk_frozen BK101.out 6) | ((with_reducible refine gate_callee (f := 21) rfl ?_); refine goesL_ (some 14) rfl rfl Tryd.func21 (by kernel_rfl) rfl #[.agg #[.bool a0_0, .bool a0_1, .bool a0_2, .bool a0_3, .int .u32 a0_4, .int .u32 a0_5, .int .i64 a0_6]] rfl (by (try simp only [List.map_toArray, List.map_cons, List.map_nil]); first | done | rfl | (simp only [List.length_drop, List.length_take]; rfl)) ?_; (with_reducible refine (marlineref08_Most.calls a0_0 a0_1 a0_2 a0_3 a0_4 a0_5 a0_6 t102 _ A3.out).mono ?_); rintro e w36 ⟨rfl, hb⟩; refine ⟨_, rfl, ?_⟩; have n0_ := Aside0.mk (blk_below (g := gb101) (o := .cells #[.bool a0_0, .bool a0_1, .bool a0_2, .bool a0_3, .int .u32 a0_4, .int .u32 a0_5, .int .i64 a0_6] 24 (0, 0)) (by (with_reducible repeat (first | refine blk_drewN ?_ _ | refine blk_drew ?_ | refine blk_alloc ?_ _)); exact BK101.out) hb); have n1_ := Aside0.mk (below_step (by repeat (first | (with_reducible first | exact HB.out | apply below_alloc | apply pw_below_drewN | apply below_drew1 | refine below_set ?_ GE101.out) | exact HB.out)) hb); clear BK101; clear HB; have BK101 := n0_; have HB := n1_; clear n0_ n1_; (try clear hb); (try clear hb2); (try clear hk); (try clear hi); have hcz37_0 : w36.cell? ⟨gb101, 0, none⟩ = some (.bool a0_0) := (blk_cell BK101.out 0).trans rfl; have hcz37_1 : w36.cell? ⟨gb101, 1, none⟩ = some (.bool a0_1) := (blk_cell BK101.out 1).trans rfl; have hcz37_2 : w36.cell? ⟨gb101, 2, none⟩ = some (.bool a0_2) := (blk_cell BK101.out 2).trans rfl; have hcz37_3 : w36.cell? ⟨gb101, 3, none⟩ = some (.bool a0_3) := (blk_cell BK101.out 3).trans rfl; have hcz37_4 : w36.cell? ⟨gb101, 4, none⟩ = some (.int .u32 a0_4) := (blk_cell BK101.out 4).trans rfl; have hcz37_5 : w36.cell? ⟨gb101, 5, none⟩ = some (.int .u32 a0_5) := (blk_cell BK101.out 5).trans rfl; have hcz37_6 : w36.cell? ⟨gb101, 6, none⟩ = some (.int .i64 a0_6) := (blk_cell BK101.out 6).trans rfl; have hfz37_0 := blk_frozen BK101.out 0; have hfz37_1 := blk_frozen BK101.out 1; have hfz37_2 := blk_frozen BK101.out 2; have hfz37_3 := blk_frozen BK101.out 3; have hfz37_4 := blk_frozen BK101.out 4; have hfz37_5 := blk_frozen BK101.out 5; have hfz37_6 := blk_frozen BK101.out 6) | ((with_reducible refine gate_callee (f := 46) rfl ?_); refine goesL_ (some 20) rfl rfl Tryd.func46 (by kernel_rfl) rfl #[.bool a0_1] rfl (by (try simp only [List.map_toArray, List.map_cons, List.map_nil]); first | done | rfl | (simp only [List.length_drop, List.length_take]; rfl)) ?_; (with_reducible refine (marlineref02_Size.calls a0_1 t103 _ A8.out).mono ?_); rintro e w' ⟨rfl, ⟨nd, rfl⟩⟩; refine ⟨_, rfl, ?_⟩) | ((with_reducible refine gate_callee (f := 45) rfl ?_); refine goesL_ (some 27) rfl rfl Tryd.func45 (by kernel_rfl) rfl #[.bool a0_1, .slice A1 l1.length c1] rfl (by (try simp only [List.map_toArray, List.map_cons, List.map_nil]); first | done | rfl | (simp only [List.length_drop, List.length_take]; rfl)) ?_; (with_reducible refine (marlineref02_Good.calls k a0_1 _ _ l1 true _ ?side1 ?side2 A14.out).mono ?_); (case side1 => repeat (first | exact (Kd.C_below HR1.out (by repeat (first | (with_reducible first | exact HB.out | apply below_alloc | apply pw_below_drewN | apply below_drew1 | refine below_set ?_ GE101.out) | exact HB.out))) | (with_reducible refine Kd.C_alloc ?_ _) | (with_reducible refine Kd.C_drewN ?_ _) | (with_reducible refine Kd.C_drew ?_))); (case side2 => exact HC1.out); rintro e w38 ⟨rfl, hb⟩; refine ⟨_, rfl, ?_⟩; have n0_ := Aside0.mk (blk_below (g := gb101) (o := .cells #[.bool a0_0, .bool a0_1, .bool a0_2, .bool a0_3, .int .u32 a0_4, .int .u32 a0_5, .int .i64 a0_6] 24 (0, 0)) (by (with_reducible repeat (first | refine blk_drewN ?_ _ | refine blk_drew ?_ | refine blk_alloc ?_ _)); exact BK101.out) hb); have n1_ := Aside0.mk (below_step (by repeat (first | (with_reducible first | exact HB.out | apply below_alloc | apply pw_below_drewN | apply below_drew1 | refine below_set ?_ GE101.out) | exact HB.out)) hb); clear BK101; clear HB; have BK101 := n0_; have HB := n1_; clear n0_ n1_; (try clear hb); (try clear hb2); (try clear hk); (try clear hi)))
                    have n0_ := Aside0.mk (blk_drew BK101.out)
                    have n1_ := Aside0.mk (below_drew1 HB.out)
                    clear BK101
                    clear HB
                    have BK101 := n0_
                    have HB := n1_
                    clear n0_ n1_
                    obtain ⟨i040, hi040, _, hsz40, _⟩ := info_parts info5
                    obtain ⟨hcut40, hA40, hC40⟩ := print_take_of (P := Tryd.prog) (Value.int .u8) 0 35 5 .i64 Tryd.underlying35 hi040 hsz40 A1 c1 l1 (ji16) (of_decide_eq_true (by first | (with_reducible assumption) | assumption)) (of_decide_eq_true (by first | (with_reducible assumption) | assumption)) HC1.out
                    have HR105 := Aside0.mk (Kd.C_of_reads (h1 := fun _ => rfl) (hA40 _ (Kd.reads_of_C HR1.out)))
                    have HC105 := Aside0.mk hC40
                    clear hA40 hC40 hi040 hsz40
                    refine start_ (n := 12) (S := fun w' => w'.cell? ⟨gb101, 0, none⟩ = some (.bool a0_0) ∧ w'.cell? ⟨gb101, 1, none⟩ = some (.bool a0_1) ∧ w'.cell? ⟨gb101, 2, none⟩ = some (.bool a0_2) ∧ w'.cell? ⟨gb101, 3, none⟩ = some (.bool a0_3) ∧ w'.cell? ⟨gb101, 4, none⟩ = some (.int .u32 a0_4) ∧ w'.cell? ⟨gb101, 5, none⟩ = some (.int .u32 a0_5) ∧ w'.cell? ⟨gb101, 6, none⟩ = some (.int .i64 a0_6)) (ds := []) #[false, false, false, false, false, false, false, false, false, false, false, false] (by kernel_rfl) rfl rfl ⟨(blk_cell BK101.out 0).trans rfl, (blk_cell BK101.out 1).trans rfl, (blk_cell BK101.out 2).trans rfl, (blk_cell BK101.out 3).trans rfl, (blk_cell BK101.out 4).trans rfl, (blk_cell BK101.out 5).trans rfl, (blk_cell BK101.out 6).trans rfl⟩ (fun hHeld => ?_); refine with_tabW marlineref11_Parse.tab8 marlineref11_Parse.bits8 (fun HT_ HW_ => ?_)
                    generalize w38.drew = w39 at BK101 HB HR105 hHeld ⊢
                    refine pure_ (i := 1) (N := some 31) (v := ?_) (a' := ?_) #[false, true, false, false, false, false, false, false, false, false, false, false] rfl rfl (any_of HT_.out (by kernel_rfl)) (fun _ _ _ h => h) (Or.inl ⟨by rfl, ?_⟩) ?_ ?_
                    rotate_left
                    · intro w'
                      go_simp
                      with_reducible rfl
                    rotate_left
                    · simp only [Act.put, List.setIfInBounds_toArray, List.set_cons_zero, List.set_cons_succ, i64_w, i32_w]
                      rfl
                    refine pure_ (i := 2) (N := some 32) (v := ?_) (a' := ?_) #[false, true, true, false, false, false, false, false, false, false, false, false] rfl rfl (any_of HT_.out (by kernel_rfl)) (fun _ _ _ h => h) (Or.inl ⟨by rfl, ?_⟩) ?_ ?_
                    rotate_left
                    · intro w'
                      go_simp
                      with_reducible rfl
                    rotate_left
                    · simp only [Act.put, List.setIfInBounds_toArray, List.set_cons_zero, List.set_cons_succ, i64_w, i32_w]
                      rfl
                    refine pure_ (i := 3) (N := some 33) (v := ?_) (a' := ?_) #[false, true, true, true, false, false, false, false, false, false, false, false] rfl rfl (any_of HT_.out (by kernel_rfl)) (fun _ _ _ h => h) (Or.inl ⟨by rfl, ?_⟩) ?_ ?_
                    rotate_left
                    · intro w'
                      go_simp
                      with_reducible rfl
                    rotate_left
                    · simp only [Act.put, List.setIfInBounds_toArray, List.set_cons_zero, List.set_cons_succ, i64_w, i32_w]
                      rfl
                    refine take_ (i := 0) (N := some 30) (v := ?_) (a' := ?_) #[true, true, true, true, false, false, false, false, false, false, false, false] rfl rfl (take_ofW HT_.out HW_.out (by kernel_rfl)) (fun _ _ _ h => h) (Or.inl ⟨by rfl, ?_⟩) hHeld ?_ ?_
                    rotate_left
                    · rintro w' ⟨s0, s1, s2, s3, s4, s5, s6⟩
                      go_simp
                      with_reducible rfl
                    rotate_left
                    · simp only [Act.put, List.setIfInBounds_toArray, List.set_cons_zero, List.set_cons_succ, i64_w, i32_w]
                      rfl
                    refine one_ (i := 4) (N := some 34) #[true, true, true, true, true, false, false, false, false, false, false, false] rfl rfl (one_of HT_.out (by kernel_rfl)) (by decide) (fun K hK => ?_)
                    refine goes_ Tryd.func30 (by kernel_rfl) rfl #[.agg #[.bool a0_0, .bool a0_1, .bool a0_2, .bool a0_3, .int .u32 a0_4, .int .u32 a0_5, .int .i64 a0_6], .slice A1 (l1.take ((ji16) : Int).toNat).length c1] (by rfl) rfl rfl (by (try simp only [List.map_toArray, List.map_cons, List.map_nil]); first | done | (rw [show (l1.take ((ji16) : Int).toNat).length = (ji16).toNat from (by rw [List.length_take]; have h_ : ((ji16) : Int) ≤ (l1.length : Int) := of_decide_eq_true (by first | (with_reducible assumption) | assumption); omega)] <;> rfl) | (simp only [hji16]; rfl) | rfl | (simp only [List.length_drop, List.length_take]; rfl)) ?_
                    with_reducible refine (marlineref10_Get.calls k a0_0 a0_1 a0_2 a0_3 a0_4 a0_5 a0_6 _ _ (l1.take ((ji16) : Int).toNat) t106 t107 t108 _ ?side1 ?side2 A19.out).mono ?_
                    (case side1 => repeat (first | exact (Kd.C_below HR105.out HB.out) | (with_reducible refine Kd.C_alloc ?_ _) | (with_reducible refine Kd.C_drewN ?_ _) | (with_reducible refine Kd.C_drew ?_)))
                    (case side2 => exact HC105.out)
                    rintro e w41 ⟨rfl, hb⟩
                    refine ⟨_, rfl, ?_⟩
                    have n0_ := Aside0.mk (blk_below (g := gb101) (o := .cells #[.bool a0_0, .bool a0_1, .bool a0_2, .bool a0_3, .int .u32 a0_4, .int .u32 a0_5, .int .i64 a0_6] 24 (0, 0)) (by (with_reducible repeat (first | refine blk_drewN ?_ _ | refine blk_drew ?_ | refine blk_alloc ?_ _)); exact BK101.out) hb)
                    have n1_ := Aside0.mk (below_step (by repeat (first | (with_reducible first | exact HB.out | apply below_alloc | apply pw_below_drewN | apply below_drew1 | refine below_set ?_ GE101.out) | exact HB.out)) hb)
                    clear BK101
                    clear HB
                    have BK101 := n0_
                    have HB := n1_
                    clear n0_ n1_
                    (try clear hb)
                    (try clear hb2)
                    (try clear hk)
                    (try clear hi)
                    refine hK.out _ _ ⟨(blk_cell BK101.out 0).trans rfl, (blk_cell BK101.out 1).trans rfl, (blk_cell BK101.out 2).trans rfl, (blk_cell BK101.out 3).trans rfl, (blk_cell BK101.out 4).trans rfl, (blk_cell BK101.out 5).trans rfl, (blk_cell BK101.out 6).trans rfl⟩ (fun hHeld => ?_)
                    clear hK K
                    refine norm_ (a' := ?_) ?_ ?_
                    rotate_left
                    · show Act.put _ (some 34) _ = _
                      simp only [Act.put, List.setIfInBounds_toArray, List.set_cons_zero, List.set_cons_succ, i64_w, i32_w]
                      rfl
                    refine pure_ (i := 5) (N := some 29) (v := ?_) (a' := ?_) #[true, true, true, true, true, true, false, false, false, false, false, false] rfl rfl (any_of HT_.out (by kernel_rfl)) (fun _ _ _ h => h) (Or.inl ⟨by rfl, ?_⟩) ?_ ?_
                    rotate_left
                    · intro w'
                      go_simp
                      with_reducible rfl
                    rotate_left
                    · simp only [Act.put, List.setIfInBounds_toArray, List.set_cons_zero, List.set_cons_succ, i64_w, i32_w]
                      rfl
                    refine pure_ (i := 6) (N := some 35) (v := ?_) (a' := ?_) #[true, true, true, true, true, true, true, false, false, false, false, false] rfl rfl (any_of HT_.out (by kernel_rfl)) (fun _ _ _ h => h) (Or.inl ⟨by rfl, ?_⟩) ?_ ?_
                    rotate_left
                    · intro w'
                      go_simp
                      with_reducible rfl
                    rotate_left
                    · simp only [Act.put, List.setIfInBounds_toArray, List.set_cons_zero, List.set_cons_succ, i64_w, i32_w]
                      rfl
                    refine pure_ (i := 7) (N := some 36) (v := ?_) (a' := ?_) #[true, true, true, true, true, true, true, true, false, false, false, false] rfl rfl (any_of HT_.out (by kernel_rfl)) (fun _ _ _ h => h) (Or.inl ⟨by rfl, ?_⟩) ?_ ?_
                    rotate_left
                    · intro w'
                      go_simp
                      with_reducible rfl
                    rotate_left
                    · simp only [Act.put, List.setIfInBounds_toArray, List.set_cons_zero, List.set_cons_succ, i64_w, i32_w]
                      rfl
                    refine pure_ (i := 8) (N := some 37) (v := ?_) (a' := ?_) #[true, true, true, true, true, true, true, true, true, false, false, false] rfl rfl (any_of HT_.out (by kernel_rfl)) (fun _ _ _ h => h) (Or.inl ⟨by rfl, ?_⟩) ?_ ?_
                    rotate_left
                    · intro w'
                      go_simp
                      with_reducible rfl
                    rotate_left
                    · simp only [Act.put, List.setIfInBounds_toArray, List.set_cons_zero, List.set_cons_succ, i64_w, i32_w]
                      rfl
                    refine pure_ (i := 9) (N := some 8) (v := ?_) (a' := ?_) #[true, true, true, true, true, true, true, true, true, true, false, false] rfl rfl (any_of HT_.out (by kernel_rfl)) (fun _ _ _ h => h) (Or.inl ⟨by rfl, ?_⟩) ?_ ?_
                    rotate_left
                    · intro w'
                      go_simp
                      with_reducible rfl
                    rotate_left
                    · simp only [Act.put, List.setIfInBounds_toArray, List.set_cons_zero, List.set_cons_succ, i64_w, i32_w]
                      rfl
                    refine pure_ (i := 10) (N := some 9) (v := ?_) (a' := ?_) #[true, true, true, true, true, true, true, true, true, true, true, false] rfl rfl (any_of HT_.out (by kernel_rfl)) (fun _ _ _ h => h) (Or.inl ⟨by rfl, ?_⟩) ?_ ?_
                    rotate_left
                    · intro w'
                      go_simp
                      with_reducible rfl
                    rotate_left
                    · simp only [Act.put, List.setIfInBounds_toArray, List.set_cons_zero, List.set_cons_succ, i64_w, i32_w]
                      rfl
                    refine pure_ (i := 11) (N := some 10) (v := ?_) (a' := ?_) #[true, true, true, true, true, true, true, true, true, true, true, true] rfl rfl (any_of HT_.out (by kernel_rfl)) (fun _ _ _ h => h) (Or.inl ⟨by rfl, ?_⟩) ?_ ?_
                    rotate_left
                    · intro w'
                      go_simp
                      with_reducible rfl
                    rotate_left
                    · simp only [Act.put, List.setIfInBounds_toArray, List.set_cons_zero, List.set_cons_succ, i64_w, i32_w]
                      rfl
                    refine done_ (done_of HT_.out (by kernel_rfl)) ?_
                    have hcz42_0 : w41.cell? ⟨gb101, 0, none⟩ = some (.bool a0_0) := (blk_cell BK101.out 0).trans rfl
                    have hcz42_1 : w41.cell? ⟨gb101, 1, none⟩ = some (.bool a0_1) := (blk_cell BK101.out 1).trans rfl
                    have hcz42_2 : w41.cell? ⟨gb101, 2, none⟩ = some (.bool a0_2) := (blk_cell BK101.out 2).trans rfl
                    have hcz42_3 : w41.cell? ⟨gb101, 3, none⟩ = some (.bool a0_3) := (blk_cell BK101.out 3).trans rfl
                    have hcz42_4 : w41.cell? ⟨gb101, 4, none⟩ = some (.int .u32 a0_4) := (blk_cell BK101.out 4).trans rfl
                    have hcz42_5 : w41.cell? ⟨gb101, 5, none⟩ = some (.int .u32 a0_5) := (blk_cell BK101.out 5).trans rfl
                    have hcz42_6 : w41.cell? ⟨gb101, 6, none⟩ = some (.int .i64 a0_6) := (blk_cell BK101.out 6).trans rfl
                    have hfz42_0 := blk_frozen BK101.out 0
                    have hfz42_1 := blk_frozen BK101.out 1
                    have hfz42_2 := blk_frozen BK101.out 2
                    have hfz42_3 := blk_frozen BK101.out 3
                    have hfz42_4 := blk_frozen BK101.out 4
                    have hfz42_5 := blk_frozen BK101.out 5
                    have hfz42_6 := blk_frozen BK101.out 6
                    try go_wp2
                    have n0_ := Aside0.mk (blk_drew BK101.out)
                    have n1_ := Aside0.mk (below_drew1 HB.out)
                    clear BK101
                    clear HB
                    have BK101 := n0_
                    have HB := n1_
                    clear n0_ n1_
                    obtain ⟨i044, hi044, _, hsz44, _⟩ := info_parts info5
                    obtain ⟨A44, hcut44, hA44, hC44⟩ := print_mid_of (P := Tryd.prog) (Value.int .u8) 0 35 5 .i64 .i64 Tryd.underlying35 hi044 hsz44 A1 c1 l1 t107 (ji16) (of_decide_eq_true (by first | (with_reducible assumption) | assumption)) (by first | omega | exact of_decide_eq_true (by first | (with_reducible assumption) | assumption)) (of_decide_eq_true (by first | (with_reducible assumption) | assumption)) HC1.out
                    rw [← HCM1.out] at hcut44 hA44 hC44
                    have HR109 := Aside0.mk (Kd.C_of_reads (h1 := fun _ => rfl) (hA44 _ (Kd.reads_of_C HR1.out)))
                    have HC109 := Aside0.mk hC44
                    clear hA44 hC44 hi044 hsz44
                    refine start_ (n := 8) (S := fun w' => True) (ds := []) #[false, false, false, false, false, false, false, false] (by kernel_rfl) rfl rfl trivial (fun hHeld => ?_); refine with_tabW marlineref11_Parse.tab13 marlineref11_Parse.bits13 (fun HT_ HW_ => ?_)
                    generalize w41.drew = w43 at BK101 HB HR109 hHeld ⊢
                    refine pure_ (i := 0) (N := some 47) (v := ?_) (a' := ?_) #[true, false, false, false, false, false, false, false] rfl rfl (any_of HT_.out (by kernel_rfl)) (fun _ _ _ h => h) (Or.inl ⟨by rfl, ?_⟩) ?_ ?_
                    rotate_left
                    · intro w'
                      go_simp
                      with_reducible rfl
                    rotate_left
                    · simp only [Act.put, List.setIfInBounds_toArray, List.set_cons_zero, List.set_cons_succ, i64_w, i32_w]
                      rfl
                    refine pure_ (i := 1) (N := some 48) (v := ?_) (a' := ?_) #[true, true, false, false, false, false, false, false] rfl rfl (any_of HT_.out (by kernel_rfl)) (fun _ _ _ h => h) (Or.inl ⟨by rfl, ?_⟩) ?_ ?_
                    rotate_left
                    · intro w'
                      go_simp
                      with_reducible rfl
                    rotate_left
                    · simp only [Act.put, List.setIfInBounds_toArray, List.set_cons_zero, List.set_cons_succ, i64_w, i32_w]
                      rfl
                    refine pure_ (i := 2) (N := some 49) (v := ?_) (a' := ?_) #[true, true, true, false, false, false, false, false] rfl rfl (any_of HT_.out (by kernel_rfl)) (fun _ _ _ h => h) (Or.inl ⟨by rfl, ?_⟩) ?_ ?_
                    rotate_left
                    · intro w'
                      go_simp
                      with_reducible rfl
                    rotate_left
                    · simp only [Act.put, List.setIfInBounds_toArray, List.set_cons_zero, List.set_cons_succ, i64_w, i32_w]
                      rfl
                    refine pure_ (i := 3) (N := some 50) (v := ?_) (a' := ?_) #[true, true, true, true, false, false, false, false] rfl rfl (any_of HT_.out (by kernel_rfl)) (fun _ _ _ h => h) (Or.inl ⟨by rfl, ?_⟩) ?_ ?_
                    rotate_left
                    · intro w'
                      go_simp
                      with_reducible rfl
                    rotate_left
                    · simp only [Act.put, List.setIfInBounds_toArray, List.set_cons_zero, List.set_cons_succ, i64_w, i32_w]
                      rfl
                    refine pure_ (i := 4) (N := some 51) (v := ?_) (a' := ?_) #[true, true, true, true, true, false, false, false] rfl rfl (any_of HT_.out (by kernel_rfl)) (fun _ _ _ h => h) (Or.inl ⟨by rfl, ?_⟩) ?_ ?_
                    rotate_left
                    · intro w'
                      go_simp
                      with_reducible rfl
                    rotate_left
                    · simp only [Act.put, List.setIfInBounds_toArray, List.set_cons_zero, List.set_cons_succ, i64_w, i32_w]
                      rfl
                    refine pure_ (i := 5) (N := some 4) (v := ?_) (a' := ?_) #[true, true, true, true, true, true, false, false] rfl rfl (any_of HT_.out (by kernel_rfl)) (fun _ _ _ h => h) (Or.inl ⟨by rfl, ?_⟩) ?_ ?_
                    rotate_left
                    · intro w'
                      go_simp
                      with_reducible rfl
                    rotate_left
                    · simp only [Act.put, List.setIfInBounds_toArray, List.set_cons_zero, List.set_cons_succ, i64_w, i32_w]
                      rfl
                    refine pure_ (i := 6) (N := some 5) (v := ?_) (a' := ?_) #[true, true, true, true, true, true, true, false] rfl rfl (any_of HT_.out (by kernel_rfl)) (fun _ _ _ h => h) (Or.inl ⟨by rfl, ?_⟩) ?_ ?_
                    rotate_left
                    · intro w'
                      go_simp
                      with_reducible rfl
                    rotate_left
                    · simp only [Act.put, List.setIfInBounds_toArray, List.set_cons_zero, List.set_cons_succ, i64_w, i32_w]
                      rfl
                    refine pure_ (i := 7) (N := some 6) (v := ?_) (a' := ?_) #[true, true, true, true, true, true, true, true] rfl rfl (any_of HT_.out (by kernel_rfl)) (fun _ _ _ h => h) (Or.inl ⟨by rfl, ?_⟩) ?_ ?_
                    rotate_left
                    · intro w'
                      go_simp
                      with_reducible rfl
                    rotate_left
                    · simp only [Act.put, List.setIfInBounds_toArray, List.set_cons_zero, List.set_cons_succ, i64_w, i32_w]
                      rfl
                    refine done_ (done_of HT_.out (by kernel_rfl)) ?_
                    try go_wp2
                    go_ret3
                    exact ⟨A44, _, by first | rfl | (simp [errW_none, errW_some] <;> rfl) | (simp only [← hji16]; first | rfl | (simp [errW_none, errW_some] <;> rfl)) | (simp [*, errW_none, errW_some] <;> rfl), by first | exact Kd.C_below HR109.out HB.out | exact HR109.out, HC109.out, by repeat (first | (with_reducible first | exact HB.out | apply below_alloc | apply pw_below_drewN | apply below_drew1 | refine below_set ?_ GE101.out) | exact HB.out)⟩
                  · rw [if_neg c32] at H
                    exact absurd H (by simp)
                · rw [if_neg c31] at H
                  exact absurd H (by simp)
            · rw [if_neg c20] at H
              have c20b0 : (t108 == 0) = false := beq_eq_false_iff_ne.mpr c20
              have c20b1 : (t108 != 0) = true := bne_iff_ne.mpr c20
              simp only [Option.some.injEq, Prod.mk.injEq] at H
              obtain ⟨rfl, rfl, rfl⟩ := H
              go_enter Tryd.func53, Tryd.ntmps53
              try go_wp2_with (first | ((with_reducible refine gate_dst (N := 2) rfl ?_); refine box_event ?hg (N := 2) ?hd (cs := #[.bool a0_0, .bool a0_1, .bool a0_2, .bool a0_3, .int .u32 a0_4, .int .u32 a0_5, .int .i64 a0_6]) (t := 24) ?hr ?_; (case hd => rfl); (case hg => rfl); (case hr => first | (go_simp; done) | (go_simp; rfl)); intro gb101 hg w45 hbox hb; have n0_ := Aside0.mk (below_step (by repeat (first | (with_reducible first | exact HB.out | apply below_alloc | apply pw_below_drewN | apply below_drew1) | exact HB.out)) hb); have n1_ := Aside0.mk (hbox); have n2_ := Aside0.mk ((by rw [hg]; exact (below_size (by repeat (first | (with_reducible first | exact HB.out | apply below_alloc | apply pw_below_drewN | apply below_drew1) | exact HB.out))) : w.heap.size ≤ gb101)); have n3_ := Aside0.mk ((by rw [hg]; exact (below_size (by repeat (first | (with_reducible first | exact HB.out | apply below_alloc | apply pw_below_drewN | apply below_drew1) | exact HB.out))) : w.heap.size ≤ gb101)); clear HB; have HB := n0_; have BK101 := n1_; have GW101 := n2_; have GE101 := n3_; clear n0_ n1_ n2_ n3_; clear hb hbox hg; have hcz46_0 : w45.cell? ⟨gb101, 0, none⟩ = some (.bool a0_0) := (blk_cell BK101.out 0).trans rfl; have hcz46_1 : w45.cell? ⟨gb101, 1, none⟩ = some (.bool a0_1) := (blk_cell BK101.out 1).trans rfl; have hcz46_2 : w45.cell? ⟨gb101, 2, none⟩ = some (.bool a0_2) := (blk_cell BK101.out 2).trans rfl; have hcz46_3 : w45.cell? ⟨gb101, 3, none⟩ = some (.bool a0_3) := (blk_cell BK101.out 3).trans rfl; have hcz46_4 : w45.cell? ⟨gb101, 4, none⟩ = some (.int .u32 a0_4) := (blk_cell BK101.out 4).trans rfl; have hcz46_5 : w45.cell? ⟨gb101, 5, none⟩ = some (.int .u32 a0_5) := (blk_cell BK101.out 5).trans rfl; have hcz46_6 : w45.cell? ⟨gb101, 6, none⟩ = some (.int .i64 a0_6) := (blk_cell BK101.out 6).trans rfl; have hfz46_0 := blk_frozen BK101.out 0; have hfz46_1 := blk_frozen BK101.out 1; have hfz46_2 := blk_frozen BK101.out 2; have hfz46_3 := blk_frozen BK101.out 3; have hfz46_4 := blk_frozen BK101.out 4; have hfz46_5 := blk_frozen BK101.out 5; have hfz46_6 := blk_frozen BK101.out 6) | ((with_reducible refine gate_callee (f := 21) rfl ?_); refine goesL_ (some 14) rfl rfl Tryd.func21 (by kernel_rfl) rfl #[.agg #[.bool a0_0, .bool a0_1, .bool a0_2, .bool a0_3, .int .u32 a0_4, .int .u32 a0_5, .int .i64 a0_6]] rfl (by (try simp only [List.map_toArray, List.map_cons, List.map_nil]); first | done | rfl | (simp only [List.length_drop, List.length_take]; rfl)) ?_; (with_reducible refine (marlineref08_Most.calls a0_0 a0_1 a0_2 a0_3 a0_4 a0_5 a0_6 t102 _ A3.out).mono ?_); rintro e w47 ⟨rfl, hb⟩; refine ⟨_, rfl, ?_⟩; have n0_ := Aside0.mk (blk_below (g := gb101) (o := .cells #[.bool a0_0, .bool a0_1, .bool a0_2, .bool a0_3, .int .u32 a0_4, .int .u32 a0_5, .int .i64 a0_6] 24 (0, 0)) (by (with_reducible repeat (first | refine blk_drewN ?_ _ | refine blk_drew ?_ | refine blk_alloc ?_ _)); exact BK101.out) hb); have n1_ := Aside0.mk (below_step (by repeat (first | (with_reducible first | exact HB.out | apply below_alloc | apply pw_below_drewN | apply below_drew1 | refine below_set ?_ GE101.out) | exact HB.out)) hb); clear BK101; clear HB; have BK101 := n0_; have HB := n1_; clear n0_ n1_; (try clear hb); (try clear hb2); (try clear hk); (try clear hi); have hcz48_0 : w47.cell? ⟨gb101, 0, none⟩ = some (.bool a0_0) := (blk_cell BK101.out 0).trans rfl; have hcz48_1 : w47.cell? ⟨gb101, 1, none⟩ = some (.bool a0_1) := (blk_cell BK101.out 1).trans rfl; have hcz48_2 : w47.cell? ⟨gb101, 2, none⟩ = some (.bool a0_2) := (blk_cell BK101.out 2).trans rfl; have hcz48_3 : w47.cell? ⟨gb101, 3, none⟩ = some (.bool a0_3) := (blk_cell BK101.out 3).trans rfl; have hcz48_4 : w47.cell? ⟨gb101, 4, none⟩ = some (.int .u32 a0_4) := (blk_cell BK101.out 4).trans rfl; have hcz48_5 : w47.cell? ⟨gb101, 5, none⟩ = some (.int .u32 a0_5) := (blk_cell BK101.out 5).trans rfl; have hcz48_6 : w47.cell? ⟨gb101, 6, none⟩ = some (.int .i64 a0_6) := (blk_cell BK101.out 6).trans rfl; have hfz48_0 := blk_frozen BK101.out 0; have hfz48_1 := blk_frozen BK101.out 1; have hfz48_2 := blk_frozen BK101.out 2; have hfz48_3 := blk_frozen BK101.out 3; have hfz48_4 := blk_frozen BK101.out 4; have hfz48_5 := blk_frozen BK101.out 5; have hfz48_6 := blk_frozen BK101.out 6) | ((with_reducible refine gate_callee (f := 46) rfl ?_); refine goesL_ (some 20) rfl rfl Tryd.func46 (by kernel_rfl) rfl #[.bool a0_1] rfl (by (try simp only [List.map_toArray, List.map_cons, List.map_nil]); first | done | rfl | (simp only [List.length_drop, List.length_take]; rfl)) ?_; (with_reducible refine (marlineref02_Size.calls a0_1 t103 _ A8.out).mono ?_); rintro e w' ⟨rfl, ⟨nd, rfl⟩⟩; refine ⟨_, rfl, ?_⟩) | ((with_reducible refine gate_callee (f := 45) rfl ?_); refine goesL_ (some 27) rfl rfl Tryd.func45 (by kernel_rfl) rfl #[.bool a0_1, .slice A1 l1.length c1] rfl (by (try simp only [List.map_toArray, List.map_cons, List.map_nil]); first | done | rfl | (simp only [List.length_drop, List.length_take]; rfl)) ?_; (with_reducible refine (marlineref02_Good.calls k a0_1 _ _ l1 true _ ?side1 ?side2 A14.out).mono ?_); (case side1 => repeat (first | exact (Kd.C_below HR1.out (by repeat (first | (with_reducible first | exact HB.out | apply below_alloc | apply pw_below_drewN | apply below_drew1 | refine below_set ?_ GE101.out) | exact HB.out))) | (with_reducible refine Kd.C_alloc ?_ _) | (with_reducible refine Kd.C_drewN ?_ _) | (with_reducible refine Kd.C_drew ?_))); (case side2 => exact HC1.out); rintro e w49 ⟨rfl, hb⟩; refine ⟨_, rfl, ?_⟩; have n0_ := Aside0.mk (blk_below (g := gb101) (o := .cells #[.bool a0_0, .bool a0_1, .bool a0_2, .bool a0_3, .int .u32 a0_4, .int .u32 a0_5, .int .i64 a0_6] 24 (0, 0)) (by (with_reducible repeat (first | refine blk_drewN ?_ _ | refine blk_drew ?_ | refine blk_alloc ?_ _)); exact BK101.out) hb); have n1_ := Aside0.mk (below_step (by repeat (first | (with_reducible first | exact HB.out | apply below_alloc | apply pw_below_drewN | apply below_drew1 | refine below_set ?_ GE101.out) | exact HB.out)) hb); clear BK101; clear HB; have BK101 := n0_; have HB := n1_; clear n0_ n1_; (try clear hb); (try clear hb2); (try clear hk); (try clear hi)))
              have n0_ := Aside0.mk (blk_drew BK101.out)
              have n1_ := Aside0.mk (below_drew1 HB.out)
              clear BK101
              clear HB
              have BK101 := n0_
              have HB := n1_
              clear n0_ n1_
              obtain ⟨i051, hi051, _, hsz51, _⟩ := info_parts info5
              obtain ⟨hcut51, hA51, hC51⟩ := print_take_of (P := Tryd.prog) (Value.int .u8) 0 35 5 .i64 Tryd.underlying35 hi051 hsz51 A1 c1 l1 (ji16) (of_decide_eq_true (by first | (with_reducible assumption) | assumption)) (of_decide_eq_true (by first | (with_reducible assumption) | assumption)) HC1.out
              have HR105 := Aside0.mk (Kd.C_of_reads (h1 := fun _ => rfl) (hA51 _ (Kd.reads_of_C HR1.out)))
              have HC105 := Aside0.mk hC51
              clear hA51 hC51 hi051 hsz51
              refine start_ (n := 12) (S := fun w' => w'.cell? ⟨gb101, 0, none⟩ = some (.bool a0_0) ∧ w'.cell? ⟨gb101, 1, none⟩ = some (.bool a0_1) ∧ w'.cell? ⟨gb101, 2, none⟩ = some (.bool a0_2) ∧ w'.cell? ⟨gb101, 3, none⟩ = some (.bool a0_3) ∧ w'.cell? ⟨gb101, 4, none⟩ = some (.int .u32 a0_4) ∧ w'.cell? ⟨gb101, 5, none⟩ = some (.int .u32 a0_5) ∧ w'.cell? ⟨gb101, 6, none⟩ = some (.int .i64 a0_6)) (ds := []) #[false, false, false, false, false, false, false, false, false, false, false, false] (by kernel_rfl) rfl rfl ⟨(blk_cell BK101.out 0).trans rfl, (blk_cell BK101.out 1).trans rfl, (blk_cell BK101.out 2).trans rfl, (blk_cell BK101.out 3).trans rfl, (blk_cell BK101.out 4).trans rfl, (blk_cell BK101.out 5).trans rfl, (blk_cell BK101.out 6).trans rfl⟩ (fun hHeld => ?_); refine with_tabW marlineref11_Parse.tab8 marlineref11_Parse.bits8 (fun HT_ HW_ => ?_)
              generalize w49.drew = w50 at BK101 HB HR105 hHeld ⊢
              refine pure_ (i := 1) (N := some 31) (v := ?_) (a' := ?_) #[false, true, false, false, false, false, false, false, false, false, false, false] rfl rfl (any_of HT_.out (by kernel_rfl)) (fun _ _ _ h => h) (Or.inl ⟨by rfl, ?_⟩) ?_ ?_
              rotate_left
              · intro w'
                go_simp
                with_reducible rfl
              rotate_left
              · simp only [Act.put, List.setIfInBounds_toArray, List.set_cons_zero, List.set_cons_succ, i64_w, i32_w]
                rfl
              refine pure_ (i := 2) (N := some 32) (v := ?_) (a' := ?_) #[false, true, true, false, false, false, false, false, false, false, false, false] rfl rfl (any_of HT_.out (by kernel_rfl)) (fun _ _ _ h => h) (Or.inl ⟨by rfl, ?_⟩) ?_ ?_
              rotate_left
              · intro w'
                go_simp
                with_reducible rfl
              rotate_left
              · simp only [Act.put, List.setIfInBounds_toArray, List.set_cons_zero, List.set_cons_succ, i64_w, i32_w]
                rfl
              refine pure_ (i := 3) (N := some 33) (v := ?_) (a' := ?_) #[false, true, true, true, false, false, false, false, false, false, false, false] rfl rfl (any_of HT_.out (by kernel_rfl)) (fun _ _ _ h => h) (Or.inl ⟨by rfl, ?_⟩) ?_ ?_
              rotate_left
              · intro w'
                go_simp
                with_reducible rfl
              rotate_left
              · simp only [Act.put, List.setIfInBounds_toArray, List.set_cons_zero, List.set_cons_succ, i64_w, i32_w]
                rfl
              refine take_ (i := 0) (N := some 30) (v := ?_) (a' := ?_) #[true, true, true, true, false, false, false, false, false, false, false, false] rfl rfl (take_ofW HT_.out HW_.out (by kernel_rfl)) (fun _ _ _ h => h) (Or.inl ⟨by rfl, ?_⟩) hHeld ?_ ?_
              rotate_left
              · rintro w' ⟨s0, s1, s2, s3, s4, s5, s6⟩
                go_simp
                with_reducible rfl
              rotate_left
              · simp only [Act.put, List.setIfInBounds_toArray, List.set_cons_zero, List.set_cons_succ, i64_w, i32_w]
                rfl
              refine one_ (i := 4) (N := some 34) #[true, true, true, true, true, false, false, false, false, false, false, false] rfl rfl (one_of HT_.out (by kernel_rfl)) (by decide) (fun K hK => ?_)
              refine goes_ Tryd.func30 (by kernel_rfl) rfl #[.agg #[.bool a0_0, .bool a0_1, .bool a0_2, .bool a0_3, .int .u32 a0_4, .int .u32 a0_5, .int .i64 a0_6], .slice A1 (l1.take ((ji16) : Int).toNat).length c1] (by rfl) rfl rfl (by (try simp only [List.map_toArray, List.map_cons, List.map_nil]); first | done | (rw [show (l1.take ((ji16) : Int).toNat).length = (ji16).toNat from (by rw [List.length_take]; have h_ : ((ji16) : Int) ≤ (l1.length : Int) := of_decide_eq_true (by first | (with_reducible assumption) | assumption); omega)] <;> rfl) | (simp only [hji16]; rfl) | rfl | (simp only [List.length_drop, List.length_take]; rfl)) ?_
              with_reducible refine (marlineref10_Get.calls k a0_0 a0_1 a0_2 a0_3 a0_4 a0_5 a0_6 _ _ (l1.take ((ji16) : Int).toNat) t106 t107 t108 _ ?side1 ?side2 A19.out).mono ?_
              (case side1 => repeat (first | exact (Kd.C_below HR105.out HB.out) | (with_reducible refine Kd.C_alloc ?_ _) | (with_reducible refine Kd.C_drewN ?_ _) | (with_reducible refine Kd.C_drew ?_)))
              (case side2 => exact HC105.out)
              rintro e w52 ⟨rfl, hb⟩
              refine ⟨_, rfl, ?_⟩
              have n0_ := Aside0.mk (blk_below (g := gb101) (o := .cells #[.bool a0_0, .bool a0_1, .bool a0_2, .bool a0_3, .int .u32 a0_4, .int .u32 a0_5, .int .i64 a0_6] 24 (0, 0)) (by (with_reducible repeat (first | refine blk_drewN ?_ _ | refine blk_drew ?_ | refine blk_alloc ?_ _)); exact BK101.out) hb)
              have n1_ := Aside0.mk (below_step (by repeat (first | (with_reducible first | exact HB.out | apply below_alloc | apply pw_below_drewN | apply below_drew1 | refine below_set ?_ GE101.out) | exact HB.out)) hb)
              clear BK101
              clear HB
              have BK101 := n0_
              have HB := n1_
              clear n0_ n1_
              (try clear hb)
              (try clear hb2)
              (try clear hk)
              (try clear hi)
              refine hK.out _ _ ⟨(blk_cell BK101.out 0).trans rfl, (blk_cell BK101.out 1).trans rfl, (blk_cell BK101.out 2).trans rfl, (blk_cell BK101.out 3).trans rfl, (blk_cell BK101.out 4).trans rfl, (blk_cell BK101.out 5).trans rfl, (blk_cell BK101.out 6).trans rfl⟩ (fun hHeld => ?_)
              clear hK K
              refine norm_ (a' := ?_) ?_ ?_
              rotate_left
              · show Act.put _ (some 34) _ = _
                simp only [Act.put, List.setIfInBounds_toArray, List.set_cons_zero, List.set_cons_succ, i64_w, i32_w]
                rfl
              refine pure_ (i := 5) (N := some 29) (v := ?_) (a' := ?_) #[true, true, true, true, true, true, false, false, false, false, false, false] rfl rfl (any_of HT_.out (by kernel_rfl)) (fun _ _ _ h => h) (Or.inl ⟨by rfl, ?_⟩) ?_ ?_
              rotate_left
              · intro w'
                go_simp
                with_reducible rfl
              rotate_left
              · simp only [Act.put, List.setIfInBounds_toArray, List.set_cons_zero, List.set_cons_succ, i64_w, i32_w]
                rfl
              refine pure_ (i := 6) (N := some 35) (v := ?_) (a' := ?_) #[true, true, true, true, true, true, true, false, false, false, false, false] rfl rfl (any_of HT_.out (by kernel_rfl)) (fun _ _ _ h => h) (Or.inl ⟨by rfl, ?_⟩) ?_ ?_
              rotate_left
              · intro w'
                go_simp
                with_reducible rfl
              rotate_left
              · simp only [Act.put, List.setIfInBounds_toArray, List.set_cons_zero, List.set_cons_succ, i64_w, i32_w]
                rfl
              refine pure_ (i := 7) (N := some 36) (v := ?_) (a' := ?_) #[true, true, true, true, true, true, true, true, false, false, false, false] rfl rfl (any_of HT_.out (by kernel_rfl)) (fun _ _ _ h => h) (Or.inl ⟨by rfl, ?_⟩) ?_ ?_
              rotate_left
              · intro w'
                go_simp
                with_reducible rfl
              rotate_left
              · simp only [Act.put, List.setIfInBounds_toArray, List.set_cons_zero, List.set_cons_succ, i64_w, i32_w]
                rfl
              refine pure_ (i := 8) (N := some 37) (v := ?_) (a' := ?_) #[true, true, true, true, true, true, true, true, true, false, false, false] rfl rfl (any_of HT_.out (by kernel_rfl)) (fun _ _ _ h => h) (Or.inl ⟨by rfl, ?_⟩) ?_ ?_
              rotate_left
              · intro w'
                go_simp
                with_reducible rfl
              rotate_left
              · simp only [Act.put, List.setIfInBounds_toArray, List.set_cons_zero, List.set_cons_succ, i64_w, i32_w]
                rfl
              refine pure_ (i := 9) (N := some 8) (v := ?_) (a' := ?_) #[true, true, true, true, true, true, true, true, true, true, false, false] rfl rfl (any_of HT_.out (by kernel_rfl)) (fun _ _ _ h => h) (Or.inl ⟨by rfl, ?_⟩) ?_ ?_
              rotate_left
              · intro w'
                go_simp
                with_reducible rfl
              rotate_left
              · simp only [Act.put, List.setIfInBounds_toArray, List.set_cons_zero, List.set_cons_succ, i64_w, i32_w]
                rfl
              refine pure_ (i := 10) (N := some 9) (v := ?_) (a' := ?_) #[true, true, true, true, true, true, true, true, true, true, true, false] rfl rfl (any_of HT_.out (by kernel_rfl)) (fun _ _ _ h => h) (Or.inl ⟨by rfl, ?_⟩) ?_ ?_
              rotate_left
              · intro w'
                go_simp
                with_reducible rfl
              rotate_left
              · simp only [Act.put, List.setIfInBounds_toArray, List.set_cons_zero, List.set_cons_succ, i64_w, i32_w]
                rfl
              refine pure_ (i := 11) (N := some 10) (v := ?_) (a' := ?_) #[true, true, true, true, true, true, true, true, true, true, true, true] rfl rfl (any_of HT_.out (by kernel_rfl)) (fun _ _ _ h => h) (Or.inl ⟨by rfl, ?_⟩) ?_ ?_
              rotate_left
              · intro w'
                go_simp
                with_reducible rfl
              rotate_left
              · simp only [Act.put, List.setIfInBounds_toArray, List.set_cons_zero, List.set_cons_succ, i64_w, i32_w]
                rfl
              refine done_ (done_of HT_.out (by kernel_rfl)) ?_
              try go_wp2
              go_ret3
              exact ⟨none, 0, by first | rfl | (simp [errW_none, errW_some] <;> rfl) | (simp only [← hji16]; first | rfl | (simp [errW_none, errW_some] <;> rfl)) | (simp [*, errW_none, errW_some] <;> rfl), c_nil _, Nat.zero_le _, by repeat (first | (with_reducible first | exact HB.out | apply below_alloc | apply pw_below_drewN | apply below_drew1 | refine below_set ?_ GE101.out) | exact HB.out)⟩
          · rw [if_neg c18] at H
            exact absurd H (by simp)
        · rw [if_neg c17] at H
          exact absurd H (by simp)
      · replace c15 := Bool.eq_false_iff.mpr c15
        subst c15
        have H1 : (some (0, ([] : List Int), 6)) = some (r1, r2, r3) := by rw [if_neg (show ¬ (false = true) by decide)] at H; exact H
        clear H
        have H := H1
        clear H1
        simp only [Option.some.injEq, Prod.mk.injEq] at H
        obtain ⟨rfl, rfl, rfl⟩ := H
        go_enter Tryd.func53, Tryd.ntmps53
        go_wp2_with (first | ((with_reducible refine gate_dst (N := 2) rfl ?_); refine box_event ?hg (N := 2) ?hd (cs := #[.bool a0_0, .bool a0_1, .bool a0_2, .bool a0_3, .int .u32 a0_4, .int .u32 a0_5, .int .i64 a0_6]) (t := 24) ?hr ?_; (case hd => rfl); (case hg => rfl); (case hr => first | (go_simp; done) | (go_simp; rfl)); intro gb101 hg w53 hbox hb; have n0_ := Aside0.mk (below_step (by repeat (first | (with_reducible first | exact HB.out | apply below_alloc | apply pw_below_drewN | apply below_drew1) | exact HB.out)) hb); have n1_ := Aside0.mk (hbox); have n2_ := Aside0.mk ((by rw [hg]; exact (below_size (by repeat (first | (with_reducible first | exact HB.out | apply below_alloc | apply pw_below_drewN | apply below_drew1) | exact HB.out))) : w.heap.size ≤ gb101)); have n3_ := Aside0.mk ((by rw [hg]; exact (below_size (by repeat (first | (with_reducible first | exact HB.out | apply below_alloc | apply pw_below_drewN | apply below_drew1) | exact HB.out))) : w.heap.size ≤ gb101)); clear HB; have HB := n0_; have BK101 := n1_; have GW101 := n2_; have GE101 := n3_; clear n0_ n1_ n2_ n3_; clear hb hbox hg; have hcz54_0 : w53.cell? ⟨gb101, 0, none⟩ = some (.bool a0_0) := (blk_cell BK101.out 0).trans rfl; have hcz54_1 : w53.cell? ⟨gb101, 1, none⟩ = some (.bool a0_1) := (blk_cell BK101.out 1).trans rfl; have hcz54_2 : w53.cell? ⟨gb101, 2, none⟩ = some (.bool a0_2) := (blk_cell BK101.out 2).trans rfl; have hcz54_3 : w53.cell? ⟨gb101, 3, none⟩ = some (.bool a0_3) := (blk_cell BK101.out 3).trans rfl; have hcz54_4 : w53.cell? ⟨gb101, 4, none⟩ = some (.int .u32 a0_4) := (blk_cell BK101.out 4).trans rfl; have hcz54_5 : w53.cell? ⟨gb101, 5, none⟩ = some (.int .u32 a0_5) := (blk_cell BK101.out 5).trans rfl; have hcz54_6 : w53.cell? ⟨gb101, 6, none⟩ = some (.int .i64 a0_6) := (blk_cell BK101.out 6).trans rfl; have hfz54_0 := blk_frozen BK101.out 0; have hfz54_1 := blk_frozen BK101.out 1; have hfz54_2 := blk_frozen BK101.out 2; have hfz54_3 := blk_frozen BK101.out 3; have hfz54_4 := blk_frozen BK101.out 4; have hfz54_5 := blk_frozen BK101.out 5; have hfz54_6 := blk_frozen BK101.out 6) | ((with_reducible refine gate_callee (f := 21) rfl ?_); refine goesL_ (some 14) rfl rfl Tryd.func21 (by kernel_rfl) rfl #[.agg #[.bool a0_0, .bool a0_1, .bool a0_2, .bool a0_3, .int .u32 a0_4, .int .u32 a0_5, .int .i64 a0_6]] rfl (by (try simp only [List.map_toArray, List.map_cons, List.map_nil]); first | done | rfl | (simp only [List.length_drop, List.length_take]; rfl)) ?_; (with_reducible refine (marlineref08_Most.calls a0_0 a0_1 a0_2 a0_3 a0_4 a0_5 a0_6 t102 _ A3.out).mono ?_); rintro e w55 ⟨rfl, hb⟩; refine ⟨_, rfl, ?_⟩; have n0_ := Aside0.mk (blk_below (g := gb101) (o := .cells #[.bool a0_0, .bool a0_1, .bool a0_2, .bool a0_3, .int .u32 a0_4, .int .u32 a0_5, .int .i64 a0_6] 24 (0, 0)) (by (with_reducible repeat (first | refine blk_drewN ?_ _ | refine blk_drew ?_ | refine blk_alloc ?_ _)); exact BK101.out) hb); have n1_ := Aside0.mk (below_step (by repeat (first | (with_reducible first | exact HB.out | apply below_alloc | apply pw_below_drewN | apply below_drew1 | refine below_set ?_ GE101.out) | exact HB.out)) hb); clear BK101; clear HB; have BK101 := n0_; have HB := n1_; clear n0_ n1_; (try clear hb); (try clear hb2); (try clear hk); (try clear hi); have hcz56_0 : w55.cell? ⟨gb101, 0, none⟩ = some (.bool a0_0) := (blk_cell BK101.out 0).trans rfl; have hcz56_1 : w55.cell? ⟨gb101, 1, none⟩ = some (.bool a0_1) := (blk_cell BK101.out 1).trans rfl; have hcz56_2 : w55.cell? ⟨gb101, 2, none⟩ = some (.bool a0_2) := (blk_cell BK101.out 2).trans rfl; have hcz56_3 : w55.cell? ⟨gb101, 3, none⟩ = some (.bool a0_3) := (blk_cell BK101.out 3).trans rfl; have hcz56_4 : w55.cell? ⟨gb101, 4, none⟩ = some (.int .u32 a0_4) := (blk_cell BK101.out 4).trans rfl; have hcz56_5 : w55.cell? ⟨gb101, 5, none⟩ = some (.int .u32 a0_5) := (blk_cell BK101.out 5).trans rfl; have hcz56_6 : w55.cell? ⟨gb101, 6, none⟩ = some (.int .i64 a0_6) := (blk_cell BK101.out 6).trans rfl; have hfz56_0 := blk_frozen BK101.out 0; have hfz56_1 := blk_frozen BK101.out 1; have hfz56_2 := blk_frozen BK101.out 2; have hfz56_3 := blk_frozen BK101.out 3; have hfz56_4 := blk_frozen BK101.out 4; have hfz56_5 := blk_frozen BK101.out 5; have hfz56_6 := blk_frozen BK101.out 6) | ((with_reducible refine gate_callee (f := 46) rfl ?_); refine goesL_ (some 20) rfl rfl Tryd.func46 (by kernel_rfl) rfl #[.bool a0_1] rfl (by (try simp only [List.map_toArray, List.map_cons, List.map_nil]); first | done | rfl | (simp only [List.length_drop, List.length_take]; rfl)) ?_; (with_reducible refine (marlineref02_Size.calls a0_1 t103 _ A8.out).mono ?_); rintro e w' ⟨rfl, ⟨nd, rfl⟩⟩; refine ⟨_, rfl, ?_⟩) | ((with_reducible refine gate_callee (f := 45) rfl ?_); refine goesL_ (some 27) rfl rfl Tryd.func45 (by kernel_rfl) rfl #[.bool a0_1, .slice A1 l1.length c1] rfl (by (try simp only [List.map_toArray, List.map_cons, List.map_nil]); first | done | rfl | (simp only [List.length_drop, List.length_take]; rfl)) ?_; (with_reducible refine (marlineref02_Good.calls k a0_1 _ _ l1 false _ ?side1 ?side2 A14.out).mono ?_); (case side1 => repeat (first | exact (Kd.C_below HR1.out (by repeat (first | (with_reducible first | exact HB.out | apply below_alloc | apply pw_below_drewN | apply below_drew1 | refine below_set ?_ GE101.out) | exact HB.out))) | (with_reducible refine Kd.C_alloc ?_ _) | (with_reducible refine Kd.C_drewN ?_ _) | (with_reducible refine Kd.C_drew ?_))); (case side2 => exact HC1.out); rintro e w57 ⟨rfl, hb⟩; refine ⟨_, rfl, ?_⟩; have n0_ := Aside0.mk (blk_below (g := gb101) (o := .cells #[.bool a0_0, .bool a0_1, .bool a0_2, .bool a0_3, .int .u32 a0_4, .int .u32 a0_5, .int .i64 a0_6] 24 (0, 0)) (by (with_reducible repeat (first | refine blk_drewN ?_ _ | refine blk_drew ?_ | refine blk_alloc ?_ _)); exact BK101.out) hb); have n1_ := Aside0.mk (below_step (by repeat (first | (with_reducible first | exact HB.out | apply below_alloc | apply pw_below_drewN | apply below_drew1 | refine below_set ?_ GE101.out) | exact HB.out)) hb); clear BK101; clear HB; have BK101 := n0_; have HB := n1_; clear n0_ n1_; (try clear hb); (try clear hb2); (try clear hk); (try clear hi)))
        go_ret3
        exact ⟨none, 0, by first | rfl | (simp [errW_none, errW_some] <;> rfl) | (simp [*, errW_none, errW_some] <;> rfl), c_nil _, Nat.zero_le _, by repeat (first | (with_reducible first | exact HB.out | apply below_alloc | apply pw_below_drewN | apply below_drew1 | refine below_set ?_ GE101.out) | exact HB.out)⟩
end Go.Proofs.YtggpejjfgphihaaDoor.U
end

section
namespace Go.Proofs.YtggpejjfgphihaaDoor.Pu
open Go.RowKit Go.Proofs.YtggpejjfgphihaaDoorW.PrintWords Go.Proofs.YtggpejjfgphihaaDoorW.PrintLast Go.Proofs.YtggpejjfgphihaaDoorW.PrintMore
open Go.Proofs.YtggpejjfgphihaaDoor.Given Go.Proofs.YtggpejjfgphihaaDoor.D Go.Proofs.YtggpejjfgphihaaDoor.H Go.Proofs.YtggpejjfgphihaaDoor.U
set_option linter.unusedVariables false
set_option linter.unusedSimpArgs false
theorem r_Build (k : Nat) (a wide acfc pfc : Bool) (x y z : Int) (p : Nat) (hp : p < 65536) (B : List Nat) (hB : ∀ x ∈ B, x < 256) (hl : B.length < 90000) (hk : 10 * B.length + 50 ≤ k) :
    marlineref11_Build.f k a wide acfc pfc x y z (p : Int) (ofN B) = if right p = true then (if (B.length : Int) > z then some ([], 3) else some (ofN (frameN wide acfc pfc p B), 0)) else some ([], 7) := by
  have hh := headN_le acfc pfc p
  have ht := size_le wide
  unfold marlineref11_Build.f
  rw [bd (r_Right p hp), ofN_length]
  split
  · split
    · rfl
    · rw [Option.bind_some, bd (r_head p hp a wide acfc pfc x y z), if_pos (by rw [ofN_length]; simp; omega), Option.bind_some, List.nil_append, if_pos (by rw [ofN_length]; omega), Option.bind_some, ← ofN_append,
        bd (r_Trailer k wide _ (headB_lt acfc pfc p hp B hB) (by rw [List.length_append]; omega) (by rw [List.length_append]; omega)), if_pos (by rw [ofN_length, ofN_length, List.length_append, trailerN_length]; omega), ← ofN_append]
      rfl
  · rfl
theorem r_Most (a wide c d : Bool) (x y : Int) (m : Nat) (hm : m ≤ 65535) : C.marlineref08_Most.f a wide c d x y (m : Int) = some ((m + 4 + sizeN wide : Nat) : Int) := by
  cases wide <;> simp [C.marlineref08_Most.f, sizeN, wrap64] <;> omega
theorem r_Parse (k : Nat) (a wide acfc pfc : Bool) (x y : Int) (m : Nat) (hm : m ≤ 65535) (L : List Nat) (hL : ∀ x ∈ L, x < 256) (hl : L.length < 90000) (hk : 10 * L.length + 10 ≤ k) :
    marlineref11_Parse.f k a wide acfc pfc x y (m : Int) (ofN L) = some (tri2 (parseN wide acfc pfc m L)) := by
  have ht := size_le wide
  unfold marlineref11_Parse.f parseN
  rw [bd (r_Most a wide acfc pfc x y m hm), ofN_length]
  by_cases h1 : m + 4 + sizeN wide < L.length
  · rw [if_pos (by omega), if_pos h1]; rfl
  rw [if_neg (by omega), if_neg h1, bd (r_Size wide)]
  by_cases h2 : L.length ≤ sizeN wide
  · rw [if_pos (by unfold wrap64; omega), if_pos h2]; rfl
  have e : wrap64 ((L.length : Int) - (sizeN wide : Int)) = ((L.length - sizeN wide : Nat) : Int) := by unfold wrap64; omega
  rw [e, if_neg (by omega), if_neg h2, bd (r_Good k wide L hL (by omega) hk)]
  cases h3 : goodB wide L with
  | false => rw [if_neg (by decide), if_pos rfl]; rfl
  | true =>
    obtain ⟨n, hn⟩ : ∃ n, n = L.length - sizeN wide := ⟨_, rfl⟩
    have hT : ∀ x ∈ L.take n, x < 256 := fun x hx => hL x (List.mem_of_mem_take hx)
    obtain ⟨k1, rfl⟩ : ∃ k1, k = k1 + 1 := ⟨k - 1, by omega⟩
    have hg := r_getHead k1 a wide acfc pfc x y (m : Int) (L.take n) hT (by rw [List.length_take]; omega)
    rw [if_pos rfl, if_neg (show ¬ (true = false) by decide), ← hn, if_pos (by omega), if_pos (by omega), Int.toNat_natCast, ofN_take, bd hg]
    have hle := getHead_le acfc pfc (L.take n)
    have hlt : (L.take n).length = n := by rw [List.length_take]; omega
    generalize hH : getHead acfc pfc (L.take n) = t at hle ⊢
    obtain ⟨t1, t2, t3⟩ := t
    simp only at hle
    have key : ∀ (u : Int × Int × Int), u = ((t1 : Int), (t2 : Int), (t3 : Int)) → (if u.2.2 = 0 then (if (wrap64 (((n : Nat) : Int) - u.2.1)) > (m : Int) then (some (0, ([] : List Int), 3)) else (if 0 ≤ u.2.1 then (if u.2.1 ≤ ((n : Nat) : Int) then (some (u.1, ((ofN (L.take n)).drop u.2.1.toNat), 0)) else (none)) else (none))) else (some (0, ([] : List Int), u.2.2))) = (if ((t3 : Nat) : Int) = 0 then (if (wrap64 (((n : Nat) : Int) - ((t2 : Nat) : Int))) > (m : Int) then (some (0, ([] : List Int), 3)) else (if 0 ≤ ((t2 : Nat) : Int) then (if ((t2 : Nat) : Int) ≤ ((n : Nat) : Int) then (some (((t1 : Nat) : Int), ((ofN (L.take n)).drop ((t2 : Nat) : Int).toNat), 0)) else (none)) else (none))) else (some (0, ([] : List Int), ((t3 : Nat) : Int)))) := by rintro u rfl; rfl
    refine (key _ rfl).trans ?_
    clear key
    show _ = some (tri2 (if t3 ≠ 0 then (0, [], t3) else if m < ((L.take n).drop t2).length then (0, [], 3) else (t1, (L.take n).drop t2, 0)))
    by_cases h4 : t3 = 0
    · have hle := hle h4
      have hw : wrap64 (((n : Nat) : Int) - ((t2 : Nat) : Int)) = ((n - t2 : Nat) : Int) := by unfold wrap64; omega
      rw [if_pos (show ((t3 : Nat) : Int) = 0 by omega), if_neg (show ¬ (t3 ≠ 0) by simp [h4]), hw, List.length_drop, hlt]
      by_cases h5 : m < n - t2
      · rw [if_pos (by omega), if_pos h5]; rfl
      · rw [if_neg (by omega), if_neg h5, if_pos (by omega), if_pos (by omega), Int.toNat_natCast, ofN_drop]; rfl
    · rw [if_neg (show ¬ ((t3 : Nat) : Int) = 0 by omega), if_pos (by simp [h4])]; rfl
end Go.Proofs.YtggpejjfgphihaaDoor.Pu
end

section
namespace Go.Proofs.YtggpejjfgphihaaDoor.L
open Go.Proofs.YtggpejjfgphihaaDoor.Given Go.Proofs.YtggpejjfgphihaaDoor.D Go.Proofs.YtggpejjfgphihaaDoor.H Go.Proofs.YtggpejjfgphihaaDoor.E Go.RowKit Go.Proofs.YtggpejjfgphihaaDoorW.PrintWords Go.Proofs.YtggpejjfgphihaaDoorW.PrintLast Go.Proofs.YtggpejjfgphihaaDoorW.PrintMore
attribute [local go_sem] max2_int min2_int max_two min_two max_three min_three max_four min_four
open Go.Proofs.YtggpejjfgphihaaDoor.C (config_Most.f config_Most.calls marlineref08_Check.f marlineref08_Check.calls)
set_option linter.unusedVariables false
set_option linter.unusedSimpArgs false
def errW : Option Int → Value
  | none => .nilIface
  | some c => .iface 0 (.int .i64 c)
theorem errW_none : errW none = .nilIface := rfl
theorem errW_some (c : Int) : errW (some c) = .iface 0 (.int .i64 c) := rfl
theorem info5 : (Tryd.prog.info? 5).map (fun i => (i.zero, i.size, i.bytes)) = some (some (.int .u8 0), 1, 1) := by kernel_rfl
end Go.Proofs.YtggpejjfgphihaaDoor.L
end

section
namespace Go.Proofs.YtggpejjfgphihaaDoor.L
open Go.Proofs.YtggpejjfgphihaaDoor.Given Go.Proofs.YtggpejjfgphihaaDoor.D Go.Proofs.YtggpejjfgphihaaDoor.H Go.Proofs.YtggpejjfgphihaaDoor.E Go.RowKit Go.Proofs.YtggpejjfgphihaaDoorW.PrintWords Go.Proofs.YtggpejjfgphihaaDoorW.PrintLast Go.Proofs.YtggpejjfgphihaaDoorW.PrintMore
attribute [local go_sem] max2_int min2_int max_two min_two max_three min_three max_four min_four
open Go.Proofs.YtggpejjfgphihaaDoor.C (config_Most.f config_Most.calls marlineref08_Check.f marlineref08_Check.calls)
set_option linter.unusedVariables false
set_option linter.unusedSimpArgs false
def marlinelaw11_speaks.f (k : Nat)  : Option (Bool) := (frame_Build.f k false false true true 0 0 64 33 ([] : List Int)).bind fun bt101 => (if bt101.2 = 0 then (if (bt101.1.length : Int) = 3 then (if 0 < (bt101.1.length : Int) then (some ((rd bt101.1 0) == 33)) else (none)) else (some false)) else (some false))
set_option maxHeartbeats 8000000 in
set_option maxRecDepth 100000 in
theorem marlinelaw11_speaks.calls (k : Nat)  (r : Bool) (w : World) (hgF : GF w) (hgH : GH w) (h : marlinelaw11_speaks.f k  = some r) :
    Calls Tryd.prog 47 #[] w fun e w' => e = .returned (.bool r) ∧ Below w.heap.size w w' := by
  have hu26 := Tryd.underlying26
  have HGF := Aside0.mk hgF
  clear hgF
  have HGH := Aside0.mk hgH
  clear hgH
  have HB := Aside0.mk (Below.refl w.heap.size w)
  have H : ((frame_Build.f k false false true true 0 0 64 33 ([] : List Int)).bind fun bt101 => (if bt101.2 = 0 then (if (bt101.1.length : Int) = 3 then (if 0 < (bt101.1.length : Int) then (some ((rd bt101.1 0) == 33)) else (none)) else (some false)) else (some false))) = some r := h
  clear h
  replace H := Option.bind_eq_some_iff.mp H
  obtain ⟨⟨t101, t104⟩, A10, H⟩ := H
  replace H : (if t104 = 0 then (if (t101.length : Int) = 3 then (if 0 < (t101.length : Int) then (some ((rd t101 0) == 33)) else (none)) else (some false)) else (some false)) = some r := H
  have A1 := Aside0.mk A10
  clear A10
  by_cases c2 : t104 = 0
  · rw [if_pos c2] at H
    have c2b0 : (t104 == 0) = true := beq_iff_eq.mpr c2
    have c2b1 : (t104 != 0) = false := bne_eq_false_iff_eq.mpr c2
    clear c2
    by_cases c3 : (t101.length : Int) = 3
    · rw [if_pos c3] at H
      have c3b0 : ((t101.length : Int) == 3) = true := beq_iff_eq.mpr c3
      have c3b1 : ((t101.length : Int) != 3) = false := bne_eq_false_iff_eq.mpr c3
      clear c3
      by_cases c4 : 0 < (t101.length : Int)
      · rw [if_pos c4] at H
        have c4b0 : decide (0 < (t101.length : Int)) = true := decide_eq_true c4
        have c4b1 : decide (0 < t101.length) = true := decide_eq_true (by omega)
        clear c4
        obtain rfl := Option.some.inj H
        go_enter Tryd.func47, Tryd.ntmps47
        go_wp2_with (first | ((with_reducible refine gate_callee (f := 48) rfl ?_); refine goesL_ (some 5) rfl rfl Tryd.func48 (by kernel_rfl) rfl #[.agg #[.bool false, .bool false, .bool true, .bool true, .int .u32 0, .int .u32 0, .int .i64 64], .int .u16 33, .slice none 0 0] rfl (by (try simp only [List.map_toArray, List.map_cons, List.map_nil]); first | done | rfl | (simp only [List.length_drop, List.length_take]; rfl)) ?_; (refine (frame_Build.calls k false false true true 0 0 64 33 _ _ ([] : List Int) t101 t104 _ ?side1 ?side2 ?side3 ?side4 A1.out).mono ?_); (case side1 => exact Kd.C_nil _ _); (case side2 => exact Nat.le_refl _); (case side3 => repeat (first | exact HGF.out | (with_reducible refine GF_alloc ?_ _) | (with_reducible refine GF_drewN ?_ _) | (with_reducible refine GF_drew ?_))); (case side4 => repeat (first | exact HGH.out | (with_reducible refine GH_alloc ?_ _) | (with_reducible refine GH_drewN ?_ _) | (with_reducible refine GH_drew ?_))); rintro e w5 ⟨v102, rfl, ho0, hb⟩; refine ⟨_, rfl, ?_⟩; have n0_ := Aside0.mk (Kd.R_lower ho0 (below_size (by repeat (first | (with_reducible first | exact HB.out | apply below_alloc | apply pw_below_drewN | apply below_drew1) | exact HB.out)))); have n1_ := Aside0.mk (below_step (by repeat (first | (with_reducible first | exact HB.out | apply below_alloc | apply pw_below_drewN | apply below_drew1) | exact HB.out)) hb); clear HB; have HO103 := n0_; have HB := n1_; clear n0_ n1_; (try clear hb); (try clear hb2); (try clear hk); (try clear hi); (try clear ho0); obtain ⟨Ao6, co6, eo6⟩ := Kd.R_slice HO103.out; subst eo6; have p105 : 0 ≤ (0 : Int) := (by omega); have q105 : 0 < (t101.length : Int) := of_decide_eq_true (by first | (with_reducible assumption) | assumption); obtain ⟨ad105, e105, hx105_0⟩ := Kd.at_int (Kd.R_reads' HO103.out).2.2 0 p105 q105; cases e105; have qi105 : (0 < t101.length) = True := eq_true (by omega); (try rw [show ((0 : Int)).toNat = 0 from rfl] at hx105_0); (try rw [Addr.add_zero'] at hx105_0); replace p105 := eq_true p105; replace q105 := eq_true q105))
        go_ret
        exact ⟨by first | rfl | (simp [errW_none, errW_some] <;> rfl) | (simp [*, errW_none, errW_some] <;> rfl), by repeat (first | (with_reducible first | exact HB.out | apply below_alloc | apply pw_below_drewN | apply below_drew1) | exact HB.out)⟩
      · rw [if_neg c4] at H
        exact absurd H (by simp)
    · rw [if_neg c3] at H
      have c3b0 : ((t101.length : Int) == 3) = false := beq_eq_false_iff_ne.mpr c3
      have c3b1 : ((t101.length : Int) != 3) = true := bne_iff_ne.mpr c3
      obtain rfl := Option.some.inj H
      go_enter Tryd.func47, Tryd.ntmps47
      go_wp2_with (first | ((with_reducible refine gate_callee (f := 48) rfl ?_); refine goesL_ (some 5) rfl rfl Tryd.func48 (by kernel_rfl) rfl #[.agg #[.bool false, .bool false, .bool true, .bool true, .int .u32 0, .int .u32 0, .int .i64 64], .int .u16 33, .slice none 0 0] rfl (by (try simp only [List.map_toArray, List.map_cons, List.map_nil]); first | done | rfl | (simp only [List.length_drop, List.length_take]; rfl)) ?_; (refine (frame_Build.calls k false false true true 0 0 64 33 _ _ ([] : List Int) t101 t104 _ ?side1 ?side2 ?side3 ?side4 A1.out).mono ?_); (case side1 => exact Kd.C_nil _ _); (case side2 => exact Nat.le_refl _); (case side3 => repeat (first | exact HGF.out | (with_reducible refine GF_alloc ?_ _) | (with_reducible refine GF_drewN ?_ _) | (with_reducible refine GF_drew ?_))); (case side4 => repeat (first | exact HGH.out | (with_reducible refine GH_alloc ?_ _) | (with_reducible refine GH_drewN ?_ _) | (with_reducible refine GH_drew ?_))); rintro e w7 ⟨v102, rfl, ho0, hb⟩; refine ⟨_, rfl, ?_⟩; have n0_ := Aside0.mk (Kd.R_lower ho0 (below_size (by repeat (first | (with_reducible first | exact HB.out | apply below_alloc | apply pw_below_drewN | apply below_drew1) | exact HB.out)))); have n1_ := Aside0.mk (below_step (by repeat (first | (with_reducible first | exact HB.out | apply below_alloc | apply pw_below_drewN | apply below_drew1) | exact HB.out)) hb); clear HB; have HO103 := n0_; have HB := n1_; clear n0_ n1_; (try clear hb); (try clear hb2); (try clear hk); (try clear hi); (try clear ho0); obtain ⟨Ao8, co8, eo8⟩ := Kd.R_slice HO103.out; subst eo8))
      go_ret
      exact ⟨by first | rfl | (simp [errW_none, errW_some] <;> rfl) | (simp [*, errW_none, errW_some] <;> rfl), by repeat (first | (with_reducible first | exact HB.out | apply below_alloc | apply pw_below_drewN | apply below_drew1) | exact HB.out)⟩
  · rw [if_neg c2] at H
    have c2b0 : (t104 == 0) = false := beq_eq_false_iff_ne.mpr c2
    have c2b1 : (t104 != 0) = true := bne_iff_ne.mpr c2
    obtain rfl := Option.some.inj H
    go_enter Tryd.func47, Tryd.ntmps47
    go_wp2_with (first | ((with_reducible refine gate_callee (f := 48) rfl ?_); refine goesL_ (some 5) rfl rfl Tryd.func48 (by kernel_rfl) rfl #[.agg #[.bool false, .bool false, .bool true, .bool true, .int .u32 0, .int .u32 0, .int .i64 64], .int .u16 33, .slice none 0 0] rfl (by (try simp only [List.map_toArray, List.map_cons, List.map_nil]); first | done | rfl | (simp only [List.length_drop, List.length_take]; rfl)) ?_; (refine (frame_Build.calls k false false true true 0 0 64 33 _ _ ([] : List Int) t101 t104 _ ?side1 ?side2 ?side3 ?side4 A1.out).mono ?_); (case side1 => exact Kd.C_nil _ _); (case side2 => exact Nat.le_refl _); (case side3 => repeat (first | exact HGF.out | (with_reducible refine GF_alloc ?_ _) | (with_reducible refine GF_drewN ?_ _) | (with_reducible refine GF_drew ?_))); (case side4 => repeat (first | exact HGH.out | (with_reducible refine GH_alloc ?_ _) | (with_reducible refine GH_drewN ?_ _) | (with_reducible refine GH_drew ?_))); rintro e w9 ⟨v102, rfl, ho0, hb⟩; refine ⟨_, rfl, ?_⟩; have n0_ := Aside0.mk (Kd.R_lower ho0 (below_size (by repeat (first | (with_reducible first | exact HB.out | apply below_alloc | apply pw_below_drewN | apply below_drew1) | exact HB.out)))); have n1_ := Aside0.mk (below_step (by repeat (first | (with_reducible first | exact HB.out | apply below_alloc | apply pw_below_drewN | apply below_drew1) | exact HB.out)) hb); clear HB; have HO103 := n0_; have HB := n1_; clear n0_ n1_; (try clear hb); (try clear hb2); (try clear hk); (try clear hi); (try clear ho0)))
    go_ret
    exact ⟨by first | rfl | (simp [errW_none, errW_some] <;> rfl) | (simp [*, errW_none, errW_some] <;> rfl), by repeat (first | (with_reducible first | exact HB.out | apply below_alloc | apply pw_below_drewN | apply below_drew1) | exact HB.out)⟩
end Go.Proofs.YtggpejjfgphihaaDoor.L
end

section
namespace Go.Proofs.YtggpejjfgphihaaDoor.Pu
open Go.RowKit Go.Proofs.YtggpejjfgphihaaDoorW.PrintWords Go.Proofs.YtggpejjfgphihaaDoorW.PrintLast Go.Proofs.YtggpejjfgphihaaDoorW.PrintMore
open Go.Proofs.YtggpejjfgphihaaDoor.Given Go.Proofs.YtggpejjfgphihaaDoor.D Go.Proofs.YtggpejjfgphihaaDoor.H Go.Proofs.YtggpejjfgphihaaDoor.E Go.Proofs.YtggpejjfgphihaaDoor.L
set_option linter.unusedVariables false
set_option linter.unusedSimpArgs false
theorem bytes_of11 {l : List Int} (h : l.all okByte = true) : ∀ x ∈ l.map Int.toNat, x < 256 := by
  intro x hx
  obtain ⟨y, hy, rfl⟩ := List.mem_map.1 hx
  have := List.all_eq_true.1 h y hy
  simp [okByte] at this
  omega
theorem speaks11 (k : Nat) : marlinelaw11_speaks.f (k + 5) = some true := by
  have h := f_Build k false false true true 0 0 64 33 (by decide) [] (by simp) (by decide)
  have hl := frameN_len false true true 33 []
  unfold marlinelaw11_speaks.f
  have h' : frame_Build.f (k + 5) false false true true 0 0 64 33 ([] : List Int) = some (ofN (frameN false true true 33 []), 0) := by
    rw [show ([] : List Int) = ofN [] from rfl, show (33 : Int) = ((33 : Nat) : Int) from rfl, h, if_pos (by decide), if_neg (by decide)]
  have h3 : (headN true true 33).length = 1 := by decide
  have h4 : sizeN false = 2 := by decide
  simp only [List.length_nil] at hl
  have hr : rd (ofN (frameN false true true 33 [])) 0 = 33 := rfl
  rw [bd h', if_pos rfl, if_pos (by rw [ofN_length]; omega), if_pos (by rw [ofN_length]; omega)]
  show some (rd (ofN (frameN false true true 33 [])) 0 == 33) = some true
  rw [hr]; rfl
end Go.Proofs.YtggpejjfgphihaaDoor.Pu
end

section
namespace Go.Proofs.YtggpejjfgphihaaDoor.M
open Go.Proofs.YtggpejjfgphihaaDoor.Given Go.Proofs.YtggpejjfgphihaaDoor.D Go.Proofs.YtggpejjfgphihaaDoor.H Go.Proofs.YtggpejjfgphihaaDoor.E Go.RowKit Go.Proofs.YtggpejjfgphihaaDoorW.PrintWords Go.Proofs.YtggpejjfgphihaaDoorW.PrintLast Go.Proofs.YtggpejjfgphihaaDoorW.PrintMore
attribute [local go_sem] max2_int min2_int max_two min_two max_three min_three max_four min_four
open Go.Proofs.YtggpejjfgphihaaDoor.C (config_Most.f config_Most.calls marlineref08_Check.f marlineref08_Check.calls)
set_option linter.unusedVariables false
set_option linter.unusedSimpArgs false
def errW : Option Int → Value
  | none => .nilIface
  | some c => .iface 0 (.int .i64 c)
theorem errW_none : errW none = .nilIface := rfl
theorem errW_some (c : Int) : errW (some c) = .iface 0 (.int .i64 c) := rfl
end Go.Proofs.YtggpejjfgphihaaDoor.M
end

section
namespace Go.Proofs.YtggpejjfgphihaaDoor.Wk11
open Go.Proofs.YtggpejjfgphihaaDoor.Given Go.RowKit Go.Proofs.YtggpejjfgphihaaDoorW.PrintWords
set_option linter.unusedVariables false
structure Cfg (w : World) (b : Nat) (a0 a1 a2 a3 : Bool) (a4 a5 a6 : Int) : Prop where
  c0 : w.cell? ⟨b, 0, none⟩ = some (.bool a0)
  c1 : w.cell? ⟨b, 1, none⟩ = some (.bool a1)
  c2 : w.cell? ⟨b, 2, none⟩ = some (.bool a2)
  c3 : w.cell? ⟨b, 3, none⟩ = some (.bool a3)
  c4 : w.cell? ⟨b, 4, none⟩ = some (.int .u32 a4)
  c5 : w.cell? ⟨b, 5, none⟩ = some (.int .u32 a5)
  c6 : w.cell? ⟨b, 6, none⟩ = some (.int .i64 a6)
theorem Cfg.below {w w1 : World} {b : Nat} {a0 a1 a2 a3 : Bool} {a4 a5 a6 : Int} (h : Cfg w b a0 a1 a2 a3 a4 a5 a6) (hb : Below w.heap.size w w1) : Cfg w1 b a0 a1 a2 a3 a4 a5 a6 :=
  ⟨pw_cell_below hb h.c0, pw_cell_below hb h.c1, pw_cell_below hb h.c2, pw_cell_below hb h.c3, pw_cell_below hb h.c4, pw_cell_below hb h.c5, pw_cell_below hb h.c6⟩
end Go.Proofs.YtggpejjfgphihaaDoor.Wk11
end

section
namespace Go.Proofs.YtggpejjfgphihaaDoor.Wk
open Go.Proofs.YtggpejjfgphihaaDoor.Given Go.Proofs.YtggpejjfgphihaaDoor.Pu Go.RowKit Go.Proofs.YtggpejjfgphihaaDoorW.PrintWords Go.Proofs.YtggpejjfgphihaaDoor.Wk11
open Go.Proofs.YtggpejjfgphihaaDoor.E (frame_Parse.calls frame_Parse.f)
open Go.Proofs.YtggpejjfgphihaaDoor.L (marlinelaw11_speaks.calls)
open Go.Proofs.YtggpejjfgphihaaDoor.C (marlineref08_Check.calls)
open Go.Proofs.YtggpejjfgphihaaDoor.H (marlineref11_Build.calls marlineref11_Build.f marlineref11_Wire.calls marlineref11_Wire.f)
open Go.Proofs.YtggpejjfgphihaaDoor.V (frame_Wire.calls frame_Wire.f)
open Go.Proofs.YtggpejjfgphihaaDoor.U (marlineref11_Parse.calls marlineref11_Parse.f)
open Go.Proofs.YtggpejjfgphihaaDoor.D (marlineref01_Equal.calls marlineref01_Equal.f)
set_option linter.unusedVariables false
set_option linter.unusedSimpArgs false
theorem one_cells {w w1 : World} {c : Array Value} {t : TypeId} (hb : Below (w.alloc (.cells c t)).heap.size (w.alloc (.cells c t)) w1) : ∀ j, w1.cell? ⟨w.heap.size, j, none⟩ = c[j]? := by
  intro j
  rw [hb.cell (p := ⟨w.heap.size, j, none⟩) (by simp)]
  exact cell_of_row _ _ j c t (0, 0) (heap_alloc_new w _)
theorem one_below {w w1 : World} {o : Obj} (hb : Below (w.alloc o).heap.size (w.alloc o) w1) : Below w.heap.size w w1 ∧ w.heap.size < w1.heap.size := by
  refine ⟨below_then ((Below.refl _ _).alloc (Nat.le_refl _) _) (by simp) hb, ?_⟩
  have := hb.size; simp at this; omega
structure Built (a0 a1 a2 a3 : Bool) (a4 a5 a6 : Int) (x : Int) (l FL WL : List Int) (er : Int) : Prop where
  fB : frame_Build.f 61000 a0 a1 a2 a3 a4 a5 a6 x l = some (FL, er)
  rB : marlineref11_Build.f 61000 a0 a1 a2 a3 a4 a5 a6 (wrap64 x) l = some (FL, er)
  fW : frame_Wire.f 61000 a0 a1 a2 a3 a4 a5 a6 x l = some (WL, er)
  eF : marlineref01_Equal.f 61000 FL FL = some true
  sane : er = 0 ∧ marlineref11_Wire.f 61000 a0 a1 a2 a3 a4 a5 a6 FL = some WL ∧ marlineref01_Equal.f 61000 WL WL = some true ∨ er ≠ 0 ∧ WL = []
theorem built_is (a0 a1 a2 a3 : Bool) (a4 a5 a6 : Int) (h4 : 0 ≤ a4 ∧ a4 < 4294967296) (x : Int) (hx : 0 ≤ x ∧ x < 65536) (l : List Int) (hb : l.all okByte = true) (hl : ¬ (l.length : Int) > 400) : ∃ FL WL er, Built a0 a1 a2 a3 a4 a5 a6 x l FL WL er := by
  rw [ofN_of hb] at hl ⊢
  have hB := bytes_of11 hb
  generalize l.map Int.toNat = B at *
  obtain ⟨P, rfl⟩ := Int.eq_ofNat_of_zero_le hx.1
  obtain ⟨M, rfl⟩ := Int.eq_ofNat_of_zero_le h4.1
  rw [ofN_length] at hl
  have hP : P < 65536 := by omega
  have hM : M < 4294967296 := by omega
  have b1 := f_Build 60995 a0 a1 a2 a3 (M : Int) a5 a6 P hP B hB (by omega)
  have b2 := r_Build 61000 a0 a1 a2 a3 (M : Int) a5 a6 P hP B hB (by omega) (by omega)
  have b3 := f_Wire 50000 a0 a1 a2 a3 M hM a5 a6 P hP B hB (by omega)
  have hF := frameN_lt a1 a2 a3 P hP B hB
  have hFl := frameN_len a1 a2 a3 P B
  have hh := headN_le a2 a3 P
  have hsz := size_le a1
  have b4 := r_Wire 1000 a0 a1 a2 a3 M hM a5 a6 (frameN a1 a2 a3 P B) hF (by omega)
  have hwl : (wireN a0 M (frameN a1 a2 a3 P B)).length < 20000 := by
    have h0 := stuffN_len M (frameN a1 a2 a3 P B)
    have h1 := insN_len (bitsN (frameN a1 a2 a3 P B)) 0
    have h2 := bitsN_len (frameN a1 a2 a3 P B)
    unfold wireN
    split <;> simp <;> omega
  have e0 : marlineref01_Equal.f 61000 ([] : List Int) [] = some true := by
    have := r_Equal 61000 [] [] (by decide) (by decide)
    simpa [ofN] using this
  by_cases hr : right P = true
  · rw [if_pos hr] at b1 b2 b3
    by_cases hz : (B.length : Int) > a6
    · rw [if_pos hz] at b1 b2 b3
      exact ⟨[], [], 3, b1, by rw [w64 P (by omega)]; exact b2, b3, e0, Or.inr ⟨by decide, rfl⟩⟩
    · rw [if_neg hz] at b1 b2 b3
      refine ⟨ofN (frameN a1 a2 a3 P B), ofN (wireN a0 M (frameN a1 a2 a3 P B)), 0, b1, by rw [w64 P (by omega)]; exact b2, b3, ?_, Or.inl ⟨rfl, b4, ?_⟩⟩
      · rw [r_Equal 61000 _ _ (by omega) (by omega)]; simp
      · rw [r_Equal 61000 _ _ (by omega) (by omega)]; simp
  · rw [if_neg hr] at b1 b2 b3
    exact ⟨[], [], 7, b1, by rw [w64 P (by omega)]; exact b2, b3, e0, Or.inr ⟨by decide, rfl⟩⟩
structure Parsed (a0 a1 a2 a3 : Bool) (a4 a5 a6 : Int) (l I : List Int) (q er : Int) : Prop where
  fP : frame_Parse.f 61000 a0 a1 a2 a3 a4 a5 a6 l = some (q, I, er)
  rP : marlineref11_Parse.f 61000 a0 a1 a2 a3 a4 a5 a6 l = some (q, I, er)
  eI : marlineref01_Equal.f 61000 I I = some true
  qw : wrap64 q = q
theorem parsed_is (a0 a1 a2 a3 : Bool) (a4 a5 a6 : Int) (h6 : 64 ≤ a6 ∧ a6 ≤ 65535) (l : List Int) (hb : l.all okByte = true) (hl : ¬ (l.length : Int) > 400) : ∃ q I er, Parsed a0 a1 a2 a3 a4 a5 a6 l I q er := by
  rw [ofN_of hb] at hl ⊢
  have hB := bytes_of11 hb
  generalize l.map Int.toNat = L at *
  obtain ⟨m, rfl⟩ := Int.eq_ofNat_of_zero_le (show 0 ≤ a6 by omega)
  rw [ofN_length] at hl
  have b1 := f_Parse 60997 a0 a1 a2 a3 a4 a5 m (by omega) L hB (by omega)
  have b2 := r_Parse 61000 a0 a1 a2 a3 a4 a5 m (by omega) L hB (by omega) (by omega)
  have hI : (parseN a1 a2 a3 m L).2.1.length ≤ 400 ∧ (parseN a1 a2 a3 m L).1 < 9223372036854775808 := by
    have ho := getHead_out a2 a3 (L.take (L.length - sizeN a1)) (fun x hx => hB x (List.mem_of_mem_take hx))
    unfold parseN
    split
    · simp
    · split
      · simp
      · split
        · simp
        · split
          · simp
          · split
            · simp
            · rename_i h _
              have := (ho.2 (by simpa using h)).2.1
              simp only [List.length_drop, List.length_take]
              omega
  generalize parseN a1 a2 a3 m L = t at *
  obtain ⟨q, I, e⟩ := t
  exact ⟨(q : Int), ofN I, (e : Int), b1, b2, by rw [r_Equal 61000 _ _ (by have := hI.1; simp at this; omega) (by have := hI.1; simp at this; omega)]; simp, w64 q hI.2⟩
set_option maxHeartbeats 8000000 in
set_option maxRecDepth 100000 in
theorem ftells_walk (a0 a1 a2 a3 : Bool) (a4 a5 a6 : Int) (x : Int) (A : Option Addr) (cap : Nat) (l : List Int) (A3 : Option Addr) (cap3 : Nat) (l3 : List Int) (w : World) (hgF : GF w) (hgH : GH w)
    (h4 : 0 ≤ a4 ∧ a4 < 4294967296) (h5 : 0 ≤ a5 ∧ a5 < 4294967296) (h6 : -9223372036854775808 ≤ a6 ∧ a6 ≤ 9223372036854775807)
    (hx : 0 ≤ x ∧ x < 65536) (hr : Kd.C (Kd.int .u8) w A l.length l) (hc : l.length ≤ cap) (hb : l.all okByte = true) (hr3 : Kd.C (Kd.int .u8) w A3 l3.length l3) (hc3 : l3.length ≤ cap3) (hb3 : l3.all okByte = true) :
    Calls Tryd.prog 16 #[.agg #[.bool a0, .bool a1, .bool a2, .bool a3, .int .u32 a4, .int .u32 a5, .int .i64 a6], .int .u16 x, .slice A l.length cap, .slice A3 l3.length cap3] w fun e w' => e = .returned (.bool true) ∧ Below w.heap.size w w' := by
  have HGF := Aside0.mk hgF
  have HGH := Aside0.mk hgH
  have HR := Aside0.mk hr
  have HC := Aside0.mk hc
  have HBY := Aside0.mk hb
  have HR3 := Aside0.mk hr3
  have HC3 := Aside0.mk hc3
  have HBY3 := Aside0.mk hb3
  have HX := Aside0.mk hx
  have H4 := Aside0.mk h4
  clear hgF hgH hr hc hb hx h4 h5 h6 hr3 hc3 hb3
  go_enter Tryd.func16, Tryd.ntmps16
  go_wp2_with fail
  refine (marlinelaw11_speaks.calls 20 true _ ?gl ?gh (speaks11 15)).mono ?_
  case gl => exact GF_alloc HGF.out _
  case gh => exact GH_alloc HGH.out _
  rintro e w1 ⟨rfl, hb1⟩
  have ca := one_cells hb1
  obtain ⟨hbw, hlt1⟩ := one_below hb1
  have HB1 := Aside0.mk hbw
  have HLT1 := Aside0.mk hlt1
  clear hb1 hbw hlt1
  have HA := Aside0.mk (⟨ca 0, ca 1, ca 2, ca 3, ca 4, ca 5, ca 6⟩ : Cfg w1 w.heap.size a0 a1 a2 a3 a4 a5 a6)
  clear ca
  obtain ⟨ca0, ca1, ca2, ca3, ca4, ca5, ca6⟩ := HA.out
  go_wp2_with fail
  refine (marlineref08_Check.calls a0 a1 a2 a3 a4 a5 a6 (chk a6) _ (check_r _ _ _ _ _ _ _)).mono ?_
  rintro e w2 ⟨rfl, hb2⟩
  have HB2 := Aside0.mk (below_step HB1.out hb2)
  have HA2 := Aside0.mk (HA.out.below hb2)
  replace HLT1 := Aside0.mk (Nat.lt_of_lt_of_le HLT1.out hb2.size)
  clear hb2 ca0 ca1 ca2 ca3 ca4 ca5 ca6
  have HSP : ∀ W : World, Below w.heap.size w W → Calls Tryd.prog 47 #[] W fun e w' => e = .returned (.bool true) ∧ Below W.heap.size W w' := fun W hW => marlinelaw11_speaks.calls 20 true W (GF_below HGF.out hW) (GH_below HGH.out hW) (speaks11 15)
  have HSPK := Aside0.mk HSP
  clear HSP
  by_cases hz : chk a6 = 0
  case neg =>
    have hz1 : (chk a6 == 0) = false := beq_eq_false_iff_ne.2 hz
    have hz2 : (chk a6 != 0) = true := bne_iff_ne.2 hz
    clear hz
    go_wp2_with fail
    refine (HSPK.out _ HB2.out).mono ?_
    rintro e w3 ⟨rfl, hb3⟩
    have HB3 := Aside0.mk (below_step HB2.out hb3)
    clear hb3
    go_wp2_with fail
    go_ret
    exact ⟨rfl, HB3.out⟩
  case pos =>
  have hz2 : (chk a6 != 0) = false := by rw [hz]; rfl
  have HM := Aside0.mk (chk_zero hz)
  clear hz
  by_cases hl : (l.length : Int) > 400
  · have hl2 : decide (400 < (l.length : Int)) = true := decide_eq_true hl
    have hl3 : decide (400 < l.length) = true := decide_eq_true (by omega)
    clear hl
    go_wp2_with fail
    refine (HSPK.out _ HB2.out).mono ?_
    rintro e w4 ⟨rfl, hb4⟩
    have HB4 := Aside0.mk (below_step HB2.out hb4)
    clear hb4
    go_wp2_with fail
    go_ret
    exact ⟨rfl, HB4.out⟩
  have hl2 : decide (400 < (l.length : Int)) = false := decide_eq_false (by omega)
  have hl3 : decide (400 < l.length) = false := decide_eq_false (by omega)
  have HL := Aside0.mk hl
  clear hl
  by_cases hl : (l3.length : Int) > 400
  · have hl4 : decide (400 < (l3.length : Int)) = true := decide_eq_true hl
    have hl5 : decide (400 < l3.length) = true := decide_eq_true (by omega)
    clear hl
    go_wp2_with fail
    refine (HSPK.out _ HB2.out).mono ?_
    rintro e w4 ⟨rfl, hb4⟩
    have HB4 := Aside0.mk (below_step HB2.out hb4)
    clear hb4
    go_wp2_with fail
    go_ret
    exact ⟨rfl, HB4.out⟩
  have hl4 : decide (400 < (l3.length : Int)) = false := decide_eq_false (by omega)
  have hl5 : decide (400 < l3.length) = false := decide_eq_false (by omega)
  have HL3 := Aside0.mk hl
  clear hl
  obtain ⟨FL, WL, er, hbu⟩ := built_is a0 a1 a2 a3 a4 a5 a6 H4.out x HX.out l HBY.out HL.out
  obtain ⟨q, I, e2, hpa⟩ := parsed_is a0 a1 a2 a3 a4 a5 a6 HM.out l3 HBY3.out HL3.out
  have HBU := Aside0.mk hbu
  have HPA := Aside0.mk hpa
  clear hbu hpa
  obtain ⟨ca0, ca1, ca2, ca3, ca4, ca5, ca6⟩ := HA2.out
  have hlt1 := HLT1.out
  go_upto_region 4 with (fail)
  obtain ⟨w3, hw3⟩ : ∃ W, W = w2.alloc (.cells #[.bool a0, .bool a1, .bool a2, .bool a3, .int .u32 a4, .int .u32 a5, .int .i64 a6] 26) := ⟨_, rfl⟩
  have hb3 : Below w2.heap.size w2 w3 := by rw [hw3]; exact below_alloc (Below.refl _ _) _
  have HX3 := Aside0.mk (show Cfg w3 w2.heap.size a0 a1 a2 a3 a4 a5 a6 from ⟨by rw [hw3]; exact cell_of_row _ _ 0 _ 26 (0, 0) (heap_alloc_new w2 _), by rw [hw3]; exact cell_of_row _ _ 1 _ 26 (0, 0) (heap_alloc_new w2 _), by rw [hw3]; exact cell_of_row _ _ 2 _ 26 (0, 0) (heap_alloc_new w2 _), by rw [hw3]; exact cell_of_row _ _ 3 _ 26 (0, 0) (heap_alloc_new w2 _), by rw [hw3]; exact cell_of_row _ _ 4 _ 26 (0, 0) (heap_alloc_new w2 _), by rw [hw3]; exact cell_of_row _ _ 5 _ 26 (0, 0) (heap_alloc_new w2 _), by rw [hw3]; exact cell_of_row _ _ 6 _ 26 (0, 0) (heap_alloc_new w2 _)⟩)
  rw [← hw3]
  have HB3 := Aside0.mk (below_step HB2.out hb3)
  have HA3 := Aside0.mk (HA2.out.below hb3)
  clear hw3 hb3 ca0 ca1 ca2 ca3 ca4 ca5 ca6 hlt1 hl2 hl3 hl4 hl5
  obtain ⟨cx0, cx1, cx2, cx3, cx4, cx5, cx6⟩ := HX3.out
  go_wp2_with fail
  refine (frame_Build.calls 61000 a0 a1 a2 a3 a4 a5 a6 x A cap l FL er _ (Kd.C_below HR.out HB3.out) HC.out (GF_below HGF.out HB3.out) (GH_below HGH.out HB3.out) HBU.out.fB).mono ?_
  rintro e w5 ⟨v5, rfl, ho5, hb5⟩
  obtain ⟨A5, c5, rfl, hc5, hq5⟩ := Kd.R_reads ho5
  have HB5 := Aside0.mk (below_step HB3.out hb5)
  have HX5 := Aside0.mk (HX3.out.below hb5)
  have HA5 := Aside0.mk (HA3.out.below hb5)
  have HC5 := Aside0.mk hc5
  have HQ5 := Aside0.mk hq5
  clear ho5 hc5 hq5 hb5 cx0 cx1 cx2 cx3 cx4 cx5 cx6
  obtain ⟨ca0, ca1, ca2, ca3, ca4, ca5, ca6⟩ := HA5.out
  go_wp2_with fail
  refine (marlineref11_Build.calls 61000 a0 a1 a2 a3 a4 a5 a6 (wrap64 x) A cap l FL er _ (Kd.C_below HR.out HB5.out) HC.out HBU.out.rB).mono ?_
  rintro e w6 ⟨v6, rfl, ho6, hb6⟩
  obtain ⟨A6, c6, rfl, hc6, hq6⟩ := Kd.R_reads ho6
  have HB6 := Aside0.mk (below_step HB5.out hb6)
  have HX6 := Aside0.mk (HX5.out.below hb6)
  have HA6 := Aside0.mk (HA5.out.below hb6)
  have HQ56 := Aside0.mk (Kd.C_below HQ5.out hb6)
  have HC6 := Aside0.mk hc6
  have HQ6 := Aside0.mk hq6
  clear ho6 hc6 hq6 hb6 ca0 ca1 ca2 ca3 ca4 ca5 ca6
  obtain ⟨cx0, cx1, cx2, cx3, cx4, cx5, cx6⟩ := HX6.out
  go_wp2_with fail
  refine (frame_Wire.calls 61000 a0 a1 a2 a3 a4 a5 a6 x A cap l WL er _ (Kd.C_below HR.out HB6.out) HC.out (GF_below HGF.out HB6.out) (GH_below HGH.out HB6.out) HBU.out.fW).mono ?_
  rintro e w7 ⟨v7, rfl, ho7, hb7⟩
  obtain ⟨A7, c7, rfl, hc7, hq7⟩ := Kd.R_reads ho7
  have HB7 := Aside0.mk (below_step HB6.out hb7)
  have HX7 := Aside0.mk (HX6.out.below hb7)
  have HA7 := Aside0.mk (HA6.out.below hb7)
  have HQ57 := Aside0.mk (Kd.C_below HQ56.out hb7)
  have HQ67 := Aside0.mk (Kd.C_below HQ6.out hb7)
  have HC7 := Aside0.mk hc7
  have HQ7 := Aside0.mk hq7
  clear ho7 hc7 hq7 hb7 cx0 cx1 cx2 cx3 cx4 cx5 cx6
  go_wp2_with fail
  refine (marlineref01_Equal.calls 61000 A5 c5 FL A6 c6 FL true _ HQ57.out HC5.out HQ67.out HC6.out HBU.out.eF).mono ?_
  rintro e w8 ⟨rfl, hd8⟩
  have hb8 := hd8.below
  have HB8 := Aside0.mk (below_step HB7.out hb8)
  have HX8 := Aside0.mk (HX7.out.below hb8)
  have HA8 := Aside0.mk (HA7.out.below hb8)
  have HQ68 := Aside0.mk (Kd.C_below HQ67.out hb8)
  have HQ78 := Aside0.mk (Kd.C_below HQ7.out hb8)
  clear hd8 hb8
  have hfin : ∀ W : World, Below w.heap.size w W → Cfg W w2.heap.size a0 a1 a2 a3 a4 a5 a6 → Cfg W w.heap.size a0 a1 a2 a3 a4 a5 a6 → True := fun _ _ _ _ => trivial
  clear hfin
  obtain ⟨ca0, ca1, ca2, ca3, ca4, ca5, ca6⟩ := HA8.out
  rcases HBU.out.sane with ⟨he0, hrw, heq⟩ | ⟨he1, hwl⟩
  · subst he0
    have HRW := Aside0.mk hrw
    have HEQ := Aside0.mk heq
    clear hrw heq
    go_wp2_with fail
    refine (marlineref11_Wire.calls 61000 a0 a1 a2 a3 a4 a5 a6 A6 c6 FL WL _ HQ68.out HC6.out HRW.out).mono ?_
    rintro e w9 ⟨v9, rfl, ho9, hb9⟩
    obtain ⟨A9, c9, rfl, hc9, hq9⟩ := Kd.R_reads ho9
    have HB9 := Aside0.mk (below_step HB8.out hb9)
    have HX9 := Aside0.mk (HX8.out.below hb9)
    have HA9 := Aside0.mk (HA8.out.below hb9)
    have HQ79 := Aside0.mk (Kd.C_below HQ78.out hb9)
    have HC9 := Aside0.mk hc9
    have HQ9 := Aside0.mk hq9
    clear ho9 hc9 hq9 hb9 ca0 ca1 ca2 ca3 ca4 ca5 ca6
    go_wp2_with fail
    refine (marlineref01_Equal.calls 61000 A7 c7 WL A9 c9 WL true _ HQ79.out HC7.out HQ9.out HC9.out HEQ.out).mono ?_
    rintro e w10 ⟨rfl, hd10⟩
    have hb10 := hd10.below
    have HB10 := Aside0.mk (below_step HB9.out hb10)
    have HX10 := Aside0.mk (HX9.out.below hb10)
    have HA10 := Aside0.mk (HA9.out.below hb10)
    clear hd10 hb10
    obtain ⟨cx0, cx1, cx2, cx3, cx4, cx5, cx6⟩ := HX10.out
    go_wp2_with fail
    refine (frame_Parse.calls 61000 a0 a1 a2 a3 a4 a5 a6 A3 cap3 l3 q I e2 _ (Kd.C_below HR3.out HB10.out) HC3.out (GF_below HGF.out HB10.out) (GH_below HGH.out HB10.out) HPA.out.fP).mono ?_
    rintro e w11 ⟨v11, rfl, ho11, hb11⟩
    obtain ⟨A11, c11, rfl, hc11, hq11⟩ := Kd.R_reads ho11
    have HB11 := Aside0.mk (below_step HB10.out hb11)
    have HA11 := Aside0.mk (HA10.out.below hb11)
    have HC11 := Aside0.mk hc11
    have HQ11 := Aside0.mk hq11
    clear ho11 hc11 hq11 hb11 cx0 cx1 cx2 cx3 cx4 cx5 cx6
    obtain ⟨ca0, ca1, ca2, ca3, ca4, ca5, ca6⟩ := HA11.out
    go_wp2_with fail
    refine (marlineref11_Parse.calls 61000 a0 a1 a2 a3 a4 a5 a6 A3 cap3 l3 q I e2 _ (Kd.C_below HR3.out HB11.out) HC3.out HPA.out.rP).mono ?_
    rintro e w12 ⟨A12, c12, rfl, hq12, hc12, hb12⟩
    have HB12 := Aside0.mk (below_step HB11.out hb12)
    have HQ112 := Aside0.mk (Kd.C_below HQ11.out hb12)
    have HC12 := Aside0.mk hc12
    have HQ12 := Aside0.mk hq12
    clear hc12 hq12 hb12 ca0 ca1 ca2 ca3 ca4 ca5 ca6
    have hqq : (wrap64 q == q) = true := by rw [HPA.out.qw]; simp
    go_wp2_with fail
    refine (marlineref01_Equal.calls 61000 A11 c11 I A12 c12 I true _ HQ112.out HC11.out HQ12.out HC12.out HPA.out.eI).mono ?_
    rintro e w13 ⟨rfl, hd13⟩
    have HB13 := Aside0.mk (below_step HB12.out hd13.below)
    clear hd13
    go_wp2_with fail
    go_ret
    exact ⟨rfl, HB13.out⟩
  · subst hwl
    have hz3 : (er == 0) = false := beq_eq_false_iff_ne.2 he1
    have hz4 : (er != 0) = true := bne_iff_ne.2 he1
    clear he1
    have HB10 := HB8
    have HA10 := HA8
    clear ca0 ca1 ca2 ca3 ca4 ca5 ca6
    obtain ⟨cx0, cx1, cx2, cx3, cx4, cx5, cx6⟩ := HX8.out
    go_wp2_with fail
    refine (frame_Parse.calls 61000 a0 a1 a2 a3 a4 a5 a6 A3 cap3 l3 q I e2 _ (Kd.C_below HR3.out HB10.out) HC3.out (GF_below HGF.out HB10.out) (GH_below HGH.out HB10.out) HPA.out.fP).mono ?_
    rintro e w11 ⟨v11, rfl, ho11, hb11⟩
    obtain ⟨A11, c11, rfl, hc11, hq11⟩ := Kd.R_reads ho11
    have HB11 := Aside0.mk (below_step HB10.out hb11)
    have HA11 := Aside0.mk (HA10.out.below hb11)
    have HC11 := Aside0.mk hc11
    have HQ11 := Aside0.mk hq11
    clear ho11 hc11 hq11 hb11 cx0 cx1 cx2 cx3 cx4 cx5 cx6
    obtain ⟨ca0, ca1, ca2, ca3, ca4, ca5, ca6⟩ := HA11.out
    go_wp2_with fail
    refine (marlineref11_Parse.calls 61000 a0 a1 a2 a3 a4 a5 a6 A3 cap3 l3 q I e2 _ (Kd.C_below HR3.out HB11.out) HC3.out HPA.out.rP).mono ?_
    rintro e w12 ⟨A12, c12, rfl, hq12, hc12, hb12⟩
    have HB12 := Aside0.mk (below_step HB11.out hb12)
    have HQ112 := Aside0.mk (Kd.C_below HQ11.out hb12)
    have HC12 := Aside0.mk hc12
    have HQ12 := Aside0.mk hq12
    clear hc12 hq12 hb12 ca0 ca1 ca2 ca3 ca4 ca5 ca6
    have hqq : (wrap64 q == q) = true := by rw [HPA.out.qw]; simp
    go_wp2_with fail
    refine (marlineref01_Equal.calls 61000 A11 c11 I A12 c12 I true _ HQ112.out HC11.out HQ12.out HC12.out HPA.out.eI).mono ?_
    rintro e w13 ⟨rfl, hd13⟩
    have HB13 := Aside0.mk (below_step HB12.out hd13.below)
    clear hd13
    go_wp2_with fail
    go_ret
    exact ⟨rfl, HB13.out⟩
end Go.Proofs.YtggpejjfgphihaaDoor.Wk
end
