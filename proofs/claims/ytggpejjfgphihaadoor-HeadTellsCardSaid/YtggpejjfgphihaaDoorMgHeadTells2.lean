/- Laid together by wip/prune.py: what the claim needs of the session's texts and of the print program's words. -/
import Derived.Test.YtggpejjfgphihaaDoorMgHeadTells1
import Derived.Test.YtggpejjfgphihaaDoorProg
import Derived.Below
import Derived.Deep.Draws
import Derived.Deep.AppendLies
import Derived.Maps.AppendAt
import Derived.OwnWalk
import Derived.Laws.BytesArg
import Derived.Laws.MakeOwn
import Derived.Laws.OwnMore
import Derived.Deep.OwnRows
import Derived.Tactics
import Derived.Lib.ConvBytes
import Derived.Laws.Slices
import Derived.WalkKit
import Derived.KernelRfl
import Derived.RowKit3
import Derived.Deep.LoopGhost
import Derived.Deep.QuietTactic
import Derived.BigQuiet
import Derived.WideLaws
import Derived.Deep.DeepCutAuto
import Derived.Deep.CutBlock
import Derived.Deep.RegionHeld3
import Derived.Laws.Rows
import Derived.Lib.AppendStr
import Derived.ArgAppend
import Derived.Laws.IdiomCopy
import Derived.OrdersHeld
import Derived.Laws.BitsLemmas
import Derived.RowKit
import Derived.Lib.BytesEntry
import Derived.Lib.Bytealg
import Derived.Laws.Externs
import Derived.Sort.Grow
import Derived.Shelf.SlSortCmp.Insertion1
import Derived.Lib.SliceRun
import Derived.Lib.LazyBuf
section
namespace Go.Proofs.YtggpejjfgphihaaDoor.B
open Go.Proofs.YtggpejjfgphihaaDoor.Given Go.Proofs.YtggpejjfgphihaaDoor.D Go.Proofs.YtggpejjfgphihaaDoor.H Go.RowKit Go.Proofs.YtggpejjfgphihaaDoorW.PrintWords Go.Proofs.YtggpejjfgphihaaDoorW.PrintLast Go.Proofs.YtggpejjfgphihaaDoorW.PrintMore
attribute [local go_sem] max2_int min2_int max_two min_two max_three min_three max_four min_four
set_option linter.unusedVariables false
set_option linter.unusedSimpArgs false
def errW : Option Int → Value
  | none => .nilIface
  | some c => .iface 0 (.int .i64 c)
theorem errW_none : errW none = .nilIface := rfl
theorem errW_some (c : Int) : errW (some c) = .iface 0 (.int .i64 c) := rfl
theorem info5 : (Tryd.prog.info? 5).map (fun i => (i.zero, i.size, i.bytes)) = some (some (.int .u8 0), 1, 1) := by kernel_rfl
structure S24 where
  f0 : Bool
  f1 : Bool
  f2 : Bool
  f3 : Bool
  f4 : Int
  f5 : Int
  f6 : Int
def z24 : S24 := ⟨false, false, false, false, (0 : Int), (0 : Int), (0 : Int)⟩
end Go.Proofs.YtggpejjfgphihaaDoor.B
end

section
namespace Go.Proofs.YtggpejjfgphihaaDoor.B
open Go.Proofs.YtggpejjfgphihaaDoor.Given Go.Proofs.YtggpejjfgphihaaDoor.D Go.Proofs.YtggpejjfgphihaaDoor.H Go.RowKit Go.Proofs.YtggpejjfgphihaaDoorW.PrintWords Go.Proofs.YtggpejjfgphihaaDoorW.PrintLast Go.Proofs.YtggpejjfgphihaaDoorW.PrintMore
attribute [local go_sem] max2_int min2_int max_two min_two max_three min_three max_four min_four
set_option linter.unusedVariables false
set_option linter.unusedSimpArgs false
def marlinelaw10_speaks.f (k : Nat)  : Option (Bool) := (head_Put.f k false false true true 0 0 0 33).bind fun t101 => ((marlineref01_Equal.f k t101 (([33] : List Int))).bind fun t107 => (if t107 = true then ((head_Put.f k false false false false 0 0 0 33).bind fun t108 => ((marlineref01_Equal.f k t108 (([255, 3, 0, 33] : List Int))).bind fun t114 => (some t114))) else (some false)))
set_option maxHeartbeats 8000000 in
set_option maxRecDepth 100000 in
theorem marlinelaw10_speaks.calls (k : Nat)  (r : Bool) (w : World) (hgH : GH w) (h : marlinelaw10_speaks.f k  = some r) :
    Calls Tryd.prog 28 #[] w fun e w' => e = .returned (.bool r) ∧ Below w.heap.size w w' := by
  have hu26 := Tryd.underlying26
  have HGH := Aside0.mk hgH
  clear hgH
  have HB := Aside0.mk (Below.refl w.heap.size w)
  have H : ((head_Put.f k false false true true 0 0 0 33).bind fun t101 => ((marlineref01_Equal.f k t101 (([33] : List Int))).bind fun t107 => (if t107 = true then ((head_Put.f k false false false false 0 0 0 33).bind fun t108 => ((marlineref01_Equal.f k t108 (([255, 3, 0, 33] : List Int))).bind fun t114 => (some t114))) else (some false)))) = some r := h
  clear h
  replace H := Option.bind_eq_some_iff.mp H
  obtain ⟨t101, A10, H⟩ := H
  replace H : ((marlineref01_Equal.f k t101 (([33] : List Int))).bind fun t107 => (if t107 = true then ((head_Put.f k false false false false 0 0 0 33).bind fun t108 => ((marlineref01_Equal.f k t108 (([255, 3, 0, 33] : List Int))).bind fun t114 => (some t114))) else (some false))) = some r := H
  have A1 := Aside0.mk A10
  clear A10
  obtain ⟨y104, hy104⟩ : ∃ y_ : List Int, y_ = (([33] : List Int)) := ⟨_, rfl⟩
  replace H : ((marlineref01_Equal.f k t101 y104).bind fun t107 => (if t107 = true then ((head_Put.f k false false false false 0 0 0 33).bind fun t108 => ((marlineref01_Equal.f k t108 (([255, 3, 0, 33] : List Int))).bind fun t114 => (some t114))) else (some false))) = some r := by first | (rw [hy104]; with_reducible exact H) | (have H2_ := (Option.bind_some _ _).symm.trans H; rw [hy104]; with_reducible exact H2_) | (have H2_ := (Option.bind_some _ _).symm.trans H; with_reducible exact H2_) | with_reducible exact H | (rw [hy104]; exact H) | exact H
  have Ny104 := Aside0.mk hy104
  clear hy104
  replace H := Option.bind_eq_some_iff.mp H
  obtain ⟨t107, A20, H⟩ := H
  replace H : (if t107 = true then ((head_Put.f k false false false false 0 0 0 33).bind fun t108 => ((marlineref01_Equal.f k t108 (([255, 3, 0, 33] : List Int))).bind fun t114 => (some t114))) else (some false)) = some r := H
  have A2 := Aside0.mk A20
  clear A20
  by_cases c3 : t107 = true
  · subst c3
    have H1 : ((head_Put.f k false false false false 0 0 0 33).bind fun t108 => ((marlineref01_Equal.f k t108 (([255, 3, 0, 33] : List Int))).bind fun t114 => (some t114))) = some r := by rw [if_pos rfl] at H; exact H
    clear H
    have H := H1
    clear H1
    replace H := Option.bind_eq_some_iff.mp H
    obtain ⟨t108, A40, H⟩ := H
    replace H : ((marlineref01_Equal.f k t108 (([255, 3, 0, 33] : List Int))).bind fun t114 => (some t114)) = some r := H
    have A4 := Aside0.mk A40
    clear A40
    obtain ⟨y111, hy111⟩ : ∃ y_ : List Int, y_ = (([255, 3, 0, 33] : List Int)) := ⟨_, rfl⟩
    replace H : ((marlineref01_Equal.f k t108 y111).bind fun t114 => (some t114)) = some r := by first | (rw [hy111]; with_reducible exact H) | (have H2_ := (Option.bind_some _ _).symm.trans H; rw [hy111]; with_reducible exact H2_) | (have H2_ := (Option.bind_some _ _).symm.trans H; with_reducible exact H2_) | with_reducible exact H | (rw [hy111]; exact H) | exact H
    have Ny111 := Aside0.mk hy111
    clear hy111
    replace H := Option.bind_eq_some_iff.mp H
    obtain ⟨t114, A50, H⟩ := H
    replace H : (some t114) = some r := H
    have A5 := Aside0.mk A50
    clear A50
    obtain rfl := Option.some.inj H
    go_enter Tryd.func28, Tryd.ntmps28
    go_wp2_with (first | ((with_reducible refine gate_callee (f := 32) rfl ?_); refine goesL_ (some 2) rfl rfl Tryd.func32 (by kernel_rfl) rfl #[.agg #[.bool false, .bool false, .bool true, .bool true, .int .u32 0, .int .u32 0, .int .i64 0], .int .u16 33] rfl (by (try simp only [List.map_toArray, List.map_cons, List.map_nil]); first | done | rfl | (simp only [List.length_drop, List.length_take]; rfl)) ?_; (with_reducible refine (head_Put.calls k false false true true 0 0 0 33 t101 _ ?side1 A1.out).mono ?_); (case side1 => repeat (first | exact HGH.out | (with_reducible refine GH_alloc ?_ _) | (with_reducible refine GH_drewN ?_ _) | (with_reducible refine GH_drew ?_))); rintro e w6 ⟨v102, rfl, ho0, hb⟩; refine ⟨_, rfl, ?_⟩; have n0_ := Aside0.mk (Kd.Q_lower ho0 (below_size (by repeat (first | (with_reducible first | exact HB.out | apply below_alloc | apply pw_below_drewN | apply below_drew1) | exact HB.out)))); have n1_ := Aside0.mk (below_step (by repeat (first | (with_reducible first | exact HB.out | apply below_alloc | apply pw_below_drewN | apply below_drew1) | exact HB.out)) hb); clear HB; have HO103 := n0_; have HB := n1_; clear n0_ n1_; (try clear hb); (try clear hb2); (try clear hk); (try clear hi); (try clear ho0)) | ((with_reducible refine gate_dst (N := 3) rfl ?_); (try (refine gate_guard (by rfl) ?_; dsimp only)); refine Kd.R_lit (Kd.int .u8) _ 5 ?hg (N := 3) ?hd (xs := ([33] : List Int)) (inner := [.int .u8 33]) (ok := fun _ => True) (okp := fun _ => True) ?hr ?hp (fun _ hk => hk) trivial (Below.refl _ _) (Nat.le_refl _) (by simp) ?_; (case hd => rfl); (case hg => rfl); (case hr => first | (go_simp; done) | (go_simp; rfl)); (case hp => exact (Reps.one (show Kd.M (Kd.int .u8) _ _ _ 33 [.int .u8 33] from rfl) (Reps.none _ _))); intro v105 w7 ho8 hb hg_ hnew_; clear hg_ hnew_; (first | rw [← Ny104.out] at ho8 | (simp only [Int.reduceToNat] at ho8; rw [← Ny104.out] at ho8)); have n0_ := Aside0.mk (Kd.Q_elder' (by (with_reducible repeat (first | apply Kd.Q_alloc | apply Kd.Q_drewN | apply Kd.Q_drew)); exact HO103.out) (Kd.R_base ho8) hb); have n1_ := Aside0.mk (Kd.R_lower (Kd.R_new' ho8 (Kd.Q_lt (by (with_reducible repeat (first | apply Kd.Q_alloc | apply Kd.Q_drewN | apply Kd.Q_drew)); exact HO103.out))) (below_size (by repeat (first | (with_reducible first | exact HB.out | apply below_alloc | apply pw_below_drewN | apply below_drew1) | exact HB.out)))); have n2_ := Aside0.mk (below_step (by repeat (first | (with_reducible first | exact HB.out | apply below_alloc | apply pw_below_drewN | apply below_drew1) | exact HB.out)) hb); clear HO103; clear HB; have HO103 := n0_; have HO106 := n1_; have HB := n2_; clear n0_ n1_ n2_; clear hb ho8; obtain ⟨Ao9, co9, eo9, _⟩ := Kd.Q_slice HO103.out; subst eo9; obtain ⟨Ao10, co10, eo10⟩ := Kd.R_slice HO106.out; subst eo10) | ((with_reducible refine gate_callee (f := 31) rfl ?_); refine goesL_ (some 4) rfl rfl Tryd.func31 (by kernel_rfl) rfl #[.slice Ao9 t101.length co9, .slice Ao10 y104.length co10] rfl (by (try simp only [List.map_toArray, List.map_cons, List.map_nil]); first | done | rfl | (simp only [List.length_drop, List.length_take]; rfl)) ?_; (with_reducible refine (marlineref01_Equal.calls k _ _ t101 _ _ y104 true _ ?side1 ?side2 ?side3 ?side4 A2.out).mono ?_); (case side1 => repeat (first | exact (Kd.Q_reads' HO103.out).2.2 | (with_reducible refine Kd.C_alloc ?_ _) | (with_reducible refine Kd.C_drewN ?_ _) | (with_reducible refine Kd.C_drew ?_))); (case side2 => exact (Kd.Q_reads' HO103.out).2.1); (case side3 => repeat (first | exact (Kd.R_reads' HO106.out).2.2 | (with_reducible refine Kd.C_alloc ?_ _) | (with_reducible refine Kd.C_drewN ?_ _) | (with_reducible refine Kd.C_drew ?_))); (case side4 => exact (Kd.R_reads' HO106.out).2.1); rintro e w' ⟨rfl, ⟨nd, rfl⟩⟩; refine ⟨_, rfl, ?_⟩) | (go_at_call 32; (with_reducible refine (head_Put.calls k false false false false 0 0 0 33 t108 _ ?side1 A4.out).mono ?_); (case side1 => repeat (first | exact (GH_below HGH.out (by repeat (first | (with_reducible first | exact HB.out | apply below_alloc | apply pw_below_drewN | apply below_drew1) | exact HB.out))) | (with_reducible refine GH_alloc ?_ _) | (with_reducible refine GH_drewN ?_ _) | (with_reducible refine GH_drew ?_))); rintro e w11 ⟨v109, rfl, ho0, hb⟩; have n0_ := Aside0.mk (Kd.Q_elder' (by (with_reducible repeat (first | apply Kd.Q_alloc | apply Kd.Q_drewN | apply Kd.Q_drew)); exact HO103.out) (Kd.Q_base ho0) hb); have n1_ := Aside0.mk (Kd.R_elder' (by (with_reducible repeat (first | apply Kd.R_alloc | apply Kd.R_drewN | apply Kd.R_drew)); exact HO106.out) (Kd.Q_base ho0) hb); have n2_ := Aside0.mk (Kd.Q_lower (Kd.Q_new' (Kd.Q_new' ho0 (Kd.Q_lt (by (with_reducible repeat (first | apply Kd.Q_alloc | apply Kd.Q_drewN | apply Kd.Q_drew)); exact HO103.out))) (Kd.R_lt (by (with_reducible repeat (first | apply Kd.R_alloc | apply Kd.R_drewN | apply Kd.R_drew)); exact HO106.out))) (below_size (by repeat (first | (with_reducible first | exact HB.out | apply below_alloc | apply pw_below_drewN | apply below_drew1) | exact HB.out)))); have n3_ := Aside0.mk (below_step (by repeat (first | (with_reducible first | exact HB.out | apply below_alloc | apply pw_below_drewN | apply below_drew1) | exact HB.out)) hb); clear HO103; clear HO106; clear HB; have HO103 := n0_; have HO106 := n1_; have HO110 := n2_; have HB := n3_; clear n0_ n1_ n2_ n3_; (try clear hb); (try clear hb2); (try clear hk); (try clear hi); (try clear ho0)) | ((with_reducible refine gate_dst (N := 8) rfl ?_); (try (refine gate_guard (by rfl) ?_; dsimp only)); refine Kd.R_lit (Kd.int .u8) _ 5 ?hg (N := 8) ?hd (xs := ([255, 3, 0, 33] : List Int)) (inner := [.int .u8 255, .int .u8 3, .int .u8 0, .int .u8 33]) (ok := fun _ => True) (okp := fun _ => True) ?hr ?hp (fun _ hk => hk) trivial (Below.refl _ _) (Nat.le_refl _) (by simp) ?_; (case hd => rfl); (case hg => rfl); (case hr => first | (go_simp; done) | (go_simp; rfl)); (case hp => exact (Reps.one (show Kd.M (Kd.int .u8) _ _ _ 255 [.int .u8 255] from rfl) (Reps.one (show Kd.M (Kd.int .u8) _ _ _ 3 [.int .u8 3] from rfl) (Reps.one (show Kd.M (Kd.int .u8) _ _ _ 0 [.int .u8 0] from rfl) (Reps.one (show Kd.M (Kd.int .u8) _ _ _ 33 [.int .u8 33] from rfl) (Reps.none _ _)))))); intro v112 w12 ho13 hb hg_ hnew_; clear hg_ hnew_; (first | rw [← Ny111.out] at ho13 | (simp only [Int.reduceToNat] at ho13; rw [← Ny111.out] at ho13)); have n0_ := Aside0.mk (Kd.Q_elder' (by (with_reducible repeat (first | apply Kd.Q_alloc | apply Kd.Q_drewN | apply Kd.Q_drew)); exact HO103.out) (Kd.R_base ho13) hb); have n1_ := Aside0.mk (Kd.R_elder' (by (with_reducible repeat (first | apply Kd.R_alloc | apply Kd.R_drewN | apply Kd.R_drew)); exact HO106.out) (Kd.R_base ho13) hb); have n2_ := Aside0.mk (Kd.Q_elder' (by (with_reducible repeat (first | apply Kd.Q_alloc | apply Kd.Q_drewN | apply Kd.Q_drew)); exact HO110.out) (Kd.R_base ho13) hb); have n3_ := Aside0.mk (Kd.R_lower (Kd.R_new' (Kd.R_new' (Kd.R_new' ho13 (Kd.Q_lt (by (with_reducible repeat (first | apply Kd.Q_alloc | apply Kd.Q_drewN | apply Kd.Q_drew)); exact HO103.out))) (Kd.R_lt (by (with_reducible repeat (first | apply Kd.R_alloc | apply Kd.R_drewN | apply Kd.R_drew)); exact HO106.out))) (Kd.Q_lt (by (with_reducible repeat (first | apply Kd.Q_alloc | apply Kd.Q_drewN | apply Kd.Q_drew)); exact HO110.out))) (below_size (by repeat (first | (with_reducible first | exact HB.out | apply below_alloc | apply pw_below_drewN | apply below_drew1) | exact HB.out)))); have n4_ := Aside0.mk (below_step (by repeat (first | (with_reducible first | exact HB.out | apply below_alloc | apply pw_below_drewN | apply below_drew1) | exact HB.out)) hb); clear HO103; clear HO106; clear HO110; clear HB; have HO103 := n0_; have HO106 := n1_; have HO110 := n2_; have HO113 := n3_; have HB := n4_; clear n0_ n1_ n2_ n3_ n4_; clear hb ho13; obtain ⟨Ao14, co14, eo14, _⟩ := Kd.Q_slice HO110.out; subst eo14; obtain ⟨Ao15, co15, eo15⟩ := Kd.R_slice HO113.out; subst eo15) | (go_at_call 31; (with_reducible refine (marlineref01_Equal.calls k _ _ t108 _ _ y111 t114 _ ?side1 ?side2 ?side3 ?side4 A5.out).mono ?_); (case side1 => repeat (first | exact (Kd.Q_reads' HO110.out).2.2 | (with_reducible refine Kd.C_alloc ?_ _) | (with_reducible refine Kd.C_drewN ?_ _) | (with_reducible refine Kd.C_drew ?_))); (case side2 => exact (Kd.Q_reads' HO110.out).2.1); (case side3 => repeat (first | exact (Kd.R_reads' HO113.out).2.2 | (with_reducible refine Kd.C_alloc ?_ _) | (with_reducible refine Kd.C_drewN ?_ _) | (with_reducible refine Kd.C_drew ?_))); (case side4 => exact (Kd.R_reads' HO113.out).2.1); rintro e w' ⟨rfl, ⟨nd, rfl⟩⟩))
    go_ret
    exact ⟨by first | rfl | (simp [errW_none, errW_some] <;> rfl) | (simp [*, errW_none, errW_some] <;> rfl), by repeat (first | (with_reducible first | exact HB.out | apply below_alloc | apply pw_below_drewN | apply below_drew1) | exact HB.out)⟩
  · replace c3 := Bool.eq_false_iff.mpr c3
    subst c3
    have H1 : (some false) = some r := by rw [if_neg (show ¬ (false = true) by decide)] at H; exact H
    clear H
    have H := H1
    clear H1
    obtain rfl := Option.some.inj H
    go_enter Tryd.func28, Tryd.ntmps28
    go_wp2_with (first | ((with_reducible refine gate_callee (f := 32) rfl ?_); refine goesL_ (some 2) rfl rfl Tryd.func32 (by kernel_rfl) rfl #[.agg #[.bool false, .bool false, .bool true, .bool true, .int .u32 0, .int .u32 0, .int .i64 0], .int .u16 33] rfl (by (try simp only [List.map_toArray, List.map_cons, List.map_nil]); first | done | rfl | (simp only [List.length_drop, List.length_take]; rfl)) ?_; (with_reducible refine (head_Put.calls k false false true true 0 0 0 33 t101 _ ?side1 A1.out).mono ?_); (case side1 => repeat (first | exact HGH.out | (with_reducible refine GH_alloc ?_ _) | (with_reducible refine GH_drewN ?_ _) | (with_reducible refine GH_drew ?_))); rintro e w16 ⟨v102, rfl, ho0, hb⟩; refine ⟨_, rfl, ?_⟩; have n0_ := Aside0.mk (Kd.Q_lower ho0 (below_size (by repeat (first | (with_reducible first | exact HB.out | apply below_alloc | apply pw_below_drewN | apply below_drew1) | exact HB.out)))); have n1_ := Aside0.mk (below_step (by repeat (first | (with_reducible first | exact HB.out | apply below_alloc | apply pw_below_drewN | apply below_drew1) | exact HB.out)) hb); clear HB; have HO103 := n0_; have HB := n1_; clear n0_ n1_; (try clear hb); (try clear hb2); (try clear hk); (try clear hi); (try clear ho0)) | ((with_reducible refine gate_dst (N := 3) rfl ?_); (try (refine gate_guard (by rfl) ?_; dsimp only)); refine Kd.R_lit (Kd.int .u8) _ 5 ?hg (N := 3) ?hd (xs := ([33] : List Int)) (inner := [.int .u8 33]) (ok := fun _ => True) (okp := fun _ => True) ?hr ?hp (fun _ hk => hk) trivial (Below.refl _ _) (Nat.le_refl _) (by simp) ?_; (case hd => rfl); (case hg => rfl); (case hr => first | (go_simp; done) | (go_simp; rfl)); (case hp => exact (Reps.one (show Kd.M (Kd.int .u8) _ _ _ 33 [.int .u8 33] from rfl) (Reps.none _ _))); intro v105 w17 ho18 hb hg_ hnew_; clear hg_ hnew_; (first | rw [← Ny104.out] at ho18 | (simp only [Int.reduceToNat] at ho18; rw [← Ny104.out] at ho18)); have n0_ := Aside0.mk (Kd.Q_elder' (by (with_reducible repeat (first | apply Kd.Q_alloc | apply Kd.Q_drewN | apply Kd.Q_drew)); exact HO103.out) (Kd.R_base ho18) hb); have n1_ := Aside0.mk (Kd.R_lower (Kd.R_new' ho18 (Kd.Q_lt (by (with_reducible repeat (first | apply Kd.Q_alloc | apply Kd.Q_drewN | apply Kd.Q_drew)); exact HO103.out))) (below_size (by repeat (first | (with_reducible first | exact HB.out | apply below_alloc | apply pw_below_drewN | apply below_drew1) | exact HB.out)))); have n2_ := Aside0.mk (below_step (by repeat (first | (with_reducible first | exact HB.out | apply below_alloc | apply pw_below_drewN | apply below_drew1) | exact HB.out)) hb); clear HO103; clear HB; have HO103 := n0_; have HO106 := n1_; have HB := n2_; clear n0_ n1_ n2_; clear hb ho18; obtain ⟨Ao19, co19, eo19, _⟩ := Kd.Q_slice HO103.out; subst eo19; obtain ⟨Ao20, co20, eo20⟩ := Kd.R_slice HO106.out; subst eo20) | ((with_reducible refine gate_callee (f := 31) rfl ?_); refine goesL_ (some 4) rfl rfl Tryd.func31 (by kernel_rfl) rfl #[.slice Ao19 t101.length co19, .slice Ao20 y104.length co20] rfl (by (try simp only [List.map_toArray, List.map_cons, List.map_nil]); first | done | rfl | (simp only [List.length_drop, List.length_take]; rfl)) ?_; (with_reducible refine (marlineref01_Equal.calls k _ _ t101 _ _ y104 false _ ?side1 ?side2 ?side3 ?side4 A2.out).mono ?_); (case side1 => repeat (first | exact (Kd.Q_reads' HO103.out).2.2 | (with_reducible refine Kd.C_alloc ?_ _) | (with_reducible refine Kd.C_drewN ?_ _) | (with_reducible refine Kd.C_drew ?_))); (case side2 => exact (Kd.Q_reads' HO103.out).2.1); (case side3 => repeat (first | exact (Kd.R_reads' HO106.out).2.2 | (with_reducible refine Kd.C_alloc ?_ _) | (with_reducible refine Kd.C_drewN ?_ _) | (with_reducible refine Kd.C_drew ?_))); (case side4 => exact (Kd.R_reads' HO106.out).2.1); rintro e w' ⟨rfl, ⟨nd, rfl⟩⟩; refine ⟨_, rfl, ?_⟩))
    go_ret
    exact ⟨by first | rfl | (simp [errW_none, errW_some] <;> rfl) | (simp [*, errW_none, errW_some] <;> rfl), by repeat (first | (with_reducible first | exact HB.out | apply below_alloc | apply pw_below_drewN | apply below_drew1) | exact HB.out)⟩
end Go.Proofs.YtggpejjfgphihaaDoor.B
end

section
namespace Go.Proofs.YtggpejjfgphihaaDoor.Pu
open Go.RowKit Go.Proofs.YtggpejjfgphihaaDoorW.PrintWords Go.Proofs.YtggpejjfgphihaaDoorW.PrintLast Go.Proofs.YtggpejjfgphihaaDoorW.PrintMore
open Go.Proofs.YtggpejjfgphihaaDoor.Given Go.Proofs.YtggpejjfgphihaaDoor.D Go.Proofs.YtggpejjfgphihaaDoor.H Go.Proofs.YtggpejjfgphihaaDoor.B
set_option linter.unusedVariables false
set_option linter.unusedSimpArgs false
theorem speaks10 (k : Nat) : marlinelaw10_speaks.f (k + 10) = some true := by
  unfold marlinelaw10_speaks.f
  have h1 := f_head (k + 7) 33 (by decide) false false true true 0 0 0
  have h2 := f_head (k + 7) 33 (by decide) false false false false 0 0 0
  have q1 := r_Equal (k + 10) [33] [33] (by decide) (by simp)
  have q2 := r_Equal (k + 10) [255, 3, 0, 33] [255, 3, 0, 33] (by decide) (by simp)
  rw [show (33 : Int) = ((33 : Nat) : Int) from rfl, h1, Option.bind_some, show headN true true 33 = [33] by decide]
  rw [show ([((33 : Nat) : Int)] : List Int) = ofN [33] from rfl, q1, Option.bind_some, if_pos (by decide), h2, Option.bind_some, show headN false false 33 = [255, 3, 0, 33] by decide]
  rw [show (255 :: 3 :: 0 :: ofN [33] : List Int) = ofN [255, 3, 0, 33] from rfl, q2]
  rfl
end Go.Proofs.YtggpejjfgphihaaDoor.Pu
end

section
namespace Go.Proofs.YtggpejjfgphihaaDoor.T
open Go.Proofs.YtggpejjfgphihaaDoor.Given Go.Proofs.YtggpejjfgphihaaDoor.D Go.Proofs.YtggpejjfgphihaaDoor.H Go.Proofs.YtggpejjfgphihaaDoor.B Go.RowKit Go.Proofs.YtggpejjfgphihaaDoorW.PrintWords Go.Proofs.YtggpejjfgphihaaDoorW.PrintLast Go.Proofs.YtggpejjfgphihaaDoorW.PrintMore
attribute [local go_sem] max2_int min2_int max_two min_two max_three min_three max_four min_four
set_option linter.unusedVariables false
set_option linter.unusedSimpArgs false
def errW : Option Int → Value
  | none => .nilIface
  | some c => .iface 0 (.int .i64 c)
theorem errW_none : errW none = .nilIface := rfl
theorem errW_some (c : Int) : errW (some c) = .iface 0 (.int .i64 c) := rfl
def rd_L1 (xs : List (List Int)) (i : Int) : (List Int) := xs.getD i.toNat ([] : List Int)
theorem at_L1 {w : World} {A : Option Addr} {n : Nat} {xs : List (List Int)} (h : Kd.C (Kd.slice 5 (Kd.int .u8)) w A n xs) (i : Int) (h0 : 0 ≤ i) (h1 : i < n) : ∃ ad A0 c0, A = some ad ∧ w.cell? (ad.add i.toNat) = some (.slice A0 (rd_L1 xs i).length c0) ∧ (rd_L1 xs i).length ≤ c0 ∧ (Kd.int .u8).C w A0 (rd_L1 xs i).length (rd_L1 xs i) := by
  obtain ⟨ad, c, e, _, hK, hc0⟩ := Kd.C_get h ([] : List Int) i h0 h1
  have hc : ∀ j u, c[j]? = some u → w.cell? (ad.add (i.toNat * 1 + j)) = some u := hc0
  obtain ⟨A0, c0, rfl, l0, g0⟩ := hK
  exact ⟨ad, A0, c0, e, by have hq := hc 0 _ rfl; rwa [Nat.mul_one, Nat.add_zero] at hq, l0, g0⟩
end Go.Proofs.YtggpejjfgphihaaDoor.T
end

section
namespace Go.Proofs.YtggpejjfgphihaaDoor.Given
open Go.RowKit Go.Proofs.YtggpejjfgphihaaDoorW.PrintWords Go.Proofs.YtggpejjfgphihaaDoorW.PrintLast Go.Proofs.YtggpejjfgphihaaDoorW.PrintMore
open Go.Proofs.YtggpejjfgphihaaDoor.H Go.Proofs.YtggpejjfgphihaaDoor.Pu
set_option linter.unusedVariables false
set_option linter.unusedSimpArgs false
def qk : Kd (List Int) where
  sz := 1
  E := [5]
  K := fun w xs cs => ∃ A c, cs = [.slice A xs.length c] ∧ xs.length ≤ c ∧ (Kd.int .u8).C w A xs.length xs
  M := fun w base ok xs cs => ∃ v, cs = [v] ∧ (Kd.int .u8).Q 5 w base ok v xs
  K_len := by
    rintro w x cs ⟨A, c, rfl, _⟩
    rfl
  K_one := by
    rintro w x cs ⟨A, c, rfl, _⟩ u hu
    rw [List.mem_singleton.1 hu]
    rfl
  K_below := by
    rintro w w1 x cs hb ⟨A, c, rfl, hl, hr⟩
    exact ⟨A, c, rfl, hl, Kd.C_below hr hb⟩
  K_of_M := by
    rintro w base ok x cs ⟨v, rfl, h⟩
    obtain ⟨A, c, rfl, hl, hr⟩ := Kd.Q_reads h
    exact ⟨A, c, rfl, hl, hr⟩
  M_mono := by
    rintro w base ok ok' x cs hok ⟨v, rfl, h⟩
    exact ⟨v, rfl, Kd.Q_mono h hok⟩
  M_bound := by
    rintro w base ok x cs ⟨v, rfl, h⟩
    exact ⟨v, rfl, Kd.Q_bound h⟩
  M_move := by
    rintro w w1 base ok x cs hm ⟨v, rfl, h⟩
    exact ⟨v, rfl, Kd.Q_move h hm⟩
  M_lower := by
    rintro w base base' ok x cs hb ⟨v, rfl, h⟩
    exact ⟨v, rfl, Kd.Q_lower h hb⟩
def cand (ad sh : Bool) (P : Nat) : List Nat := (if ad = true then [255, 3] else []) ++ numN P sh
def gd (a f ad sh : Bool) (P : Nat) : Bool := (ad || a) && (!(sh && decide (P < 256)) || f)
theorem right_parts {p : Nat} (h : right p = true) : p % 2 = 1 ∧ p / 256 % 2 = 0 ∧ p ≠ 255 := by simpa [right, and_assoc] using h
theorem getN_cand (P : Nat) (hr : right P = true) (hP : P < 65536) (sh f : Bool) : getN (numN P sh) f = if (!(sh && decide (P < 256)) || f) = true then (P, (numN P sh).length, 0) else (0, 0, 7) := by
  obtain ⟨h1, h2, h3⟩ := right_parts hr
  unfold numN
  by_cases h : sh = true ∧ P < 256
  · have e : P % 256 = P := Nat.mod_eq_of_lt h.2
    rw [if_pos h, e]
    simp [getN, h1, hr, h.1, h.2]
  · have e : 256 * (P / 256) + P % 256 = P := by omega
    have hb : (!(sh && decide (P < 256)) || f) = true := by
      cases sh
      · rfl
      · have : ¬ P < 256 := fun hh => h ⟨rfl, hh⟩
        simp [this]
    rw [if_neg h, if_pos hb]
    simp [getN, h2, e, hr]
theorem begins_cand (P : Nat) (hr : right P = true) (hP : P < 65536) (ad sh : Bool) : begins (cand ad sh P) = ad := by
  obtain ⟨h1, h2, h3⟩ := right_parts hr
  unfold cand
  cases ad
  · unfold numN
    by_cases h : sh = true ∧ P < 256
    · simp [h, begins]
    · have : P / 256 ≠ 255 := by omega
      simp [h, begins, this]
  · simp [begins]
theorem getHead_cand (P : Nat) (hr : right P = true) (hP : P < 65536) (a f ad sh : Bool) : getHead a f (cand ad sh P) = if gd a f ad sh P = true then (P, (cand ad sh P).length, 0) else (0, 0, 7) := by
  unfold getHead gd
  rw [begins_cand P hr hP ad sh]
  cases ad
  · cases a
    · simp
    · have hc : cand false sh P = numN P sh := by simp [cand]
      rw [hc]
      simp only [Bool.false_or, Bool.true_and, and_false, Bool.true_eq_false, if_false, Bool.false_eq_true, getN_cand P hr hP sh f]
      split <;> simp
  · have hd : (cand true sh P).drop 2 = numN P sh := by simp [cand]
    have hl : (cand true sh P).length = 2 + (numN P sh).length := by simp [cand]; omega
    simp only [if_true, hd, Bool.true_or, Bool.true_and, Bool.true_eq_false, false_and, if_false, getN_cand P hr hP sh f, hl]
    split <;> simp
theorem cand_lt (ad sh : Bool) (P : Nat) (hP : P < 65536) : ∀ x ∈ cand ad sh P, x < 256 := by
  intro x hx
  rcases List.mem_append.1 hx with hx | hx
  · cases ad
    · simp at hx
    · simp at hx; omega
  · exact numN_lt P sh hP x hx
theorem cand_len (ad sh : Bool) (P : Nat) : 1 ≤ (cand ad sh P).length ∧ (cand ad sh P).length ≤ 4 := by
  have := numN_len P sh
  cases ad <;> simp [cand] <;> omega
def stepR (a f : Bool) (P : Nat) (ad sh : Bool) (rows : List (List Int)) : List (List Int) := if gd a f ad sh P = true then rows ++ [ofN (cand ad sh P)] else rows
def rowsAt (a f : Bool) (P : Nat) : Nat → List (List Int)
  | 0 => []
  | n + 1 => stepR a f P (decide (2 ≤ n)) (decide (n % 2 = 1)) (rowsAt a f P n)
theorem rowsAt_len (a f : Bool) (P : Nat) (n : Nat) : (rowsAt a f P n).length ≤ n := by
  induction n with
  | zero => simp [rowsAt]
  | succ n ih =>
    unfold rowsAt stepR
    split
    · rw [List.length_append, List.length_singleton]; omega
    · omega
theorem app_qk {ops : Array Oper} {rest : List Oper} {o : Oper} {a : Act} {Q : Exit → Act → World → Prop} {w0 W : World} (B : Nat) (hgd : o.guard = none) (s x : Operand) (v : Value) (rows : List (List Int)) (p : List Int) (u : Value)
    (ho : o.op = .call { callee := .builtin .append, args := #[s, x], argTypes := #[47, 47] }) (hs : a.eval s = v) (hx : a.eval x = .slice (some ⟨W.heap.size, 0, none⟩) 1 1)
    (hq : (Kd.int .u8).Q 5 W B (fun k => some k ≠ v.ownBlock) u p) (HO : qk.R 35 W B (fun _ => True) v rows) (HB : Below B w0 W) (hB : B ≤ W.heap.size) (hl : rows.length < 100)
    (h : ∀ v1 w1, qk.R 35 w1 B (fun _ => True) v1 (rows ++ [p]) → Below B w0 w1 → W.grownBy w1 v.ownBlock → wpList Tryd.prog ops Q rest (a.put o.dst v1) w1) :
    wpList Tryd.prog ops Q (o :: rest) a (W.alloc (.cells #[u] 35)) := by
  refine Kd.R_append qk (w0 := w0) B hgd s x 47 35 (.slice none 0 0) 24 ho Tryd.underlying47 info35 rfl (by decide) (by decide) v rows p [u] (fun _ => True) (fun k => some k ≠ v.ownBlock) hs hx ⟨u, rfl, hq⟩ (fun k hk => ⟨trivial, hk⟩) (fun _ _ => trivial) HO HB hB (by omega) ?_
  intro v1 w1 h1 h2 h3 _
  exact h v1 w1 h1 h2 h3
structure Cf (w : World) (b : Nat) (a0 a1 a f : Bool) (a4 a5 a6 : Int) : Prop where
  c0 : w.cell? ⟨b, 0, none⟩ = some (.bool a0)
  c1 : w.cell? ⟨b, 1, none⟩ = some (.bool a1)
  c2 : w.cell? ⟨b, 2, none⟩ = some (.bool a)
  c3 : w.cell? ⟨b, 3, none⟩ = some (.bool f)
  c4 : w.cell? ⟨b, 4, none⟩ = some (.int .u32 a4)
  c5 : w.cell? ⟨b, 5, none⟩ = some (.int .u32 a5)
  c6 : w.cell? ⟨b, 6, none⟩ = some (.int .i64 a6)
theorem Cf.below {w w1 : World} {b : Nat} {a0 a1 a f : Bool} {a4 a5 a6 : Int} (h : Cf w b a0 a1 a f a4 a5 a6) (hb : Below w.heap.size w w1) : Cf w1 b a0 a1 a f a4 a5 a6 :=
  ⟨pw_cell_below hb h.c0, pw_cell_below hb h.c1, pw_cell_below hb h.c2, pw_cell_below hb h.c3, pw_cell_below hb h.c4, pw_cell_below hb h.c5, pw_cell_below hb h.c6⟩
structure St (w2 ws : World) (a f : Bool) (P n g : Nat) (v5 : Value) : Prop where
  own : qk.R 35 ws w2.heap.size (fun _ => True) v5 (rowsAt a f P n)
  below : Below w2.heap.size w2 ws
  blk : ws.heap[g]? = some (.cells #[.bool false, .bool true] 4 (0, 0))
theorem St.lt {w2 ws : World} {a f : Bool} {P n g : Nat} {v5 : Value} (h : St w2 ws a f P n g v5) : g < ws.heap.size := blk_lt h.blk
theorem St.step {w2 ws w' : World} {a f : Bool} {P n g : Nat} {v5 : Value} (h : St w2 ws a f P n g v5) (hb : Below ws.heap.size ws w') : St w2 w' a f P n g v5 :=
  ⟨Kd.R_below h.own hb, below_step h.below hb, (hb.block g h.lt).trans h.blk⟩
theorem St.skip {w2 ws : World} {a f : Bool} {P n g : Nat} {v5 : Value} (h : St w2 ws a f P n g v5) (ad sh : Bool) (h1 : decide (2 ≤ n) = ad) (h2 : decide (n % 2 = 1) = sh) (hg : ¬ gd a f ad sh P = true) : St w2 ws a f P (n + 1) g v5 := by
  refine ⟨?_, h.below, h.blk⟩
  have : rowsAt a f P (n + 1) = rowsAt a f P n := by rw [rowsAt, stepR, h1, h2, if_neg hg]
  rw [this]; exact h.own
theorem St.app {w2 ws w' : World} {a f : Bool} {P n g : Nat} {v5 v' : Value} (h : St w2 ws a f P n g v5) (ad sh : Bool) (h1 : decide (2 ≤ n) = ad) (h2 : decide (n % 2 = 1) = sh) (hg : gd a f ad sh P = true)
    (ho : qk.R 35 w' w2.heap.size (fun _ => True) v' (rowsAt a f P n ++ [ofN (cand ad sh P)])) (hb : Below w2.heap.size w2 w') (hgr : ws.grownBy w' v5.ownBlock) : St w2 w' a f P (n + 1) g v' := by
  have e : rowsAt a f P (n + 1) = rowsAt a f P n ++ [ofN (cand ad sh P)] := by rw [rowsAt, stepR, h1, h2, if_pos hg]
  exact ⟨by rw [e]; exact ho, hb, blk_grown h.blk hgr (Kd.R_ne h.own h.blk (by decide))⟩
set_option maxHeartbeats 16000000 in
set_option maxRecDepth 100000 in
theorem all_walk (a0 a1 a f : Bool) (a4 a5 a6 : Int) (P : Nat) (hP : P < 65536) (hr : right P = true) (w : World) (hgH : GH w) (Post : World → Ending → World → Prop)
    (hpost : ∀ (W : World) (v5 : Value) , Below w.heap.size w W → qk.R 35 W w.heap.size (fun _ => True) v5 (rowsAt a f P 4) → (Calls Tryd.prog 62 #[v5, .func (.func 63) #[] #[]] W fun e W' => e = .returned (.tuple #[]) ∧ Calls Tryd.prog 66 #[v5, .func (.func 67) #[] #[]] W' fun e W2 => ∃ r, e = .returned r ∧ Post w e W2)) :
    Calls Tryd.prog 35 #[.agg #[.bool a0, .bool a1, .bool a, .bool f, .int .u32 a4, .int .u32 a5, .int .i64 a6], .int .u16 (P : Int)] w (Post w) := by
  have HP := Aside0.mk hP
  have HR := Aside0.mk hr
  have HG := Aside0.mk hgH
  have HPOST := Aside0.mk hpost
  clear hP hr hgH hpost
  go_enter Tryd.func35, Tryd.ntmps35
  go_upto_region 1 with (fail)
  obtain ⟨w1, hw1⟩ : ∃ W, W = w.alloc (.cells #[.bool a0, .bool a1, .bool a, .bool f, .int .u32 a4, .int .u32 a5, .int .i64 a6] 26) := ⟨_, rfl⟩
  have hb1 : Below w.heap.size w w1 := by rw [hw1]; exact below_alloc (Below.refl _ _) _
  have HC1 := Aside0.mk (show Cf w1 w.heap.size a0 a1 a f a4 a5 a6 from ⟨by rw [hw1]; exact cell_of_row _ _ 0 _ 26 (0, 0) (heap_alloc_new w _), by rw [hw1]; exact cell_of_row _ _ 1 _ 26 (0, 0) (heap_alloc_new w _), by rw [hw1]; exact cell_of_row _ _ 2 _ 26 (0, 0) (heap_alloc_new w _), by rw [hw1]; exact cell_of_row _ _ 3 _ 26 (0, 0) (heap_alloc_new w _), by rw [hw1]; exact cell_of_row _ _ 4 _ 26 (0, 0) (heap_alloc_new w _), by rw [hw1]; exact cell_of_row _ _ 5 _ 26 (0, 0) (heap_alloc_new w _), by rw [hw1]; exact cell_of_row _ _ 6 _ 26 (0, 0) (heap_alloc_new w _)⟩)
  rw [← hw1]
  have HB1 := Aside0.mk hb1
  clear hb1 hw1
  go_wp2_with fail
  obtain ⟨w2, hw2⟩ : ∃ W, W = w1.alloc (.cells #[.bool false, .bool true] 4) := ⟨_, rfl⟩
  have hb2 : Below w1.heap.size w1 w2 := by rw [hw2]; exact below_alloc (Below.refl _ _) _
  have harr : ∀ j, w2.cell? ⟨w1.heap.size, j, none⟩ = (#[.bool false, .bool true] : Array Value)[j]? := by intro j; rw [hw2]; exact cell_of_row _ _ j _ 4 (0, 0) (heap_alloc_new w1 _)
  rw [← hw2]
  have HARR := Aside0.mk harr
  have HC2 := Aside0.mk (HC1.out.below hb2)
  have HB2 := Aside0.mk (below_step HB1.out hb2)
  clear hw2 hb2 harr
  go_loopw [5, 17] (fun v5 v17 wr => (v17 = .int .i64 0 ∧ Aside0 (qk.R 35 wr w2.heap.size (fun _ => True) v5 (rowsAt a f P 0) ∧ Below w2.heap.size w2 wr)) ∨ (v17 = .int .i64 1 ∧ Aside0 (qk.R 35 wr w2.heap.size (fun _ => True) v5 (rowsAt a f P 2) ∧ Below w2.heap.size w2 wr)) ∨ (v17 = .int .i64 2 ∧ Aside0 (qk.R 35 wr w2.heap.size (fun _ => True) v5 (rowsAt a f P 4) ∧ Below w2.heap.size w2 wr))) (fun _ v _ => 2 - (intOf v).toNat)
  case atStart => exact Or.inl ⟨rfl, ⟨Kd.R_nil _ _ _ _ _, Below.refl _ _⟩⟩
  case round =>
    rcases hrel with ⟨rfl, HO⟩ | ⟨rfl, HO⟩ | ⟨rfl, HO⟩
    · obtain ⟨wo, rfl⟩ : ∃ wo : World, wo = wr := ⟨_, rfl⟩
      have bi : wo.cell? ⟨w1.heap.size, 0, none⟩ = some (.bool false) := (pw_cell_below HO.out.2 (HARR.out 0))
      go_wp2_with fail
      obtain ⟨w3, hw3⟩ : ∃ W, W = wo.alloc (.cells #[.bool false, .bool true] 4) := ⟨_, rfl⟩
      have hb3 : Below wo.heap.size wo w3 := by rw [hw3]; exact below_alloc (Below.refl _ _) _
      have hblk : w3.heap[wo.heap.size]? = some (.cells #[.bool false, .bool true] 4 (0, 0)) := by rw [hw3]; exact heap_alloc_new wo _
      rw [← hw3]
      have HS0 := Aside0.mk (show St w2 w3 a f P 0 wo.heap.size u5 from ⟨Kd.R_below HO.out.1 hb3, below_step HO.out.2 hb3, hblk⟩)
      clear hw3 hb3 hblk bi
      go_loopw [5, 23] (fun v5 v23 wr => (v23 = .int .i64 0 ∧ Aside0 (St w2 wr a f P 0 wo.heap.size v5)) ∨ (v23 = .int .i64 1 ∧ Aside0 (St w2 wr a f P 1 wo.heap.size v5)) ∨ (v23 = .int .i64 2 ∧ Aside0 (St w2 wr a f P 2 wo.heap.size v5))) (fun _ v _ => 2 - (intOf v).toNat)
      case atStart => exact Or.inl ⟨rfl, HS0⟩
      case round =>
        clear HS0 HO
        rcases hrel with ⟨rfl, HS⟩ | ⟨rfl, HS⟩ | ⟨rfl, HS⟩
        · have bj : wr.cell? ⟨wo.heap.size, 0, none⟩ = some (.bool false) := (blk_cell HS.out.blk 0).trans rfl
          have HPUT := Aside0.mk (f_Put 0 P false HP.out)
          go_wp2_with fail
          refine (proto_Put.calls 3 (P : Int) false (ofN (numN P false)) _ HPUT.out).mono ?_
          rintro e x3 ⟨v, rfl, hq, hb3⟩
          have hnl := numN_len P false
          obtain ⟨gq, oq, cq, rfl, hgq1, hgq2, _⟩ := Kd.Q_form hq (by rw [ofN_length]; omega)
          have HS3 := Aside0.mk (HS.out.step hb3)
          have HLT := Aside0.mk (Kd.R_lt HS.out.own)
          have hle2 : w2.heap.size ≤ wr.heap.size := HS.out.below.size
          have HLE2 := Aside0.mk hle2
          have HQ3 := Aside0.mk (Kd.Q_lower (Kd.Q_new' hq HLT.out) hle2)
          clear hq hgq1 hgq2 hle2 bj hnl HPUT
          have hcl : (cand false false P) = numN P false := by simp [cand]
          have HCL := Aside0.mk hcl
          clear hcl hb3
          obtain ⟨c0, c1, c2, c3, c4, c5, c6⟩ := (HC2.out.below HS3.out.below)
          by_cases hgd : gd a f false false P = true
          case pos =>
            have hfg : head_Get.f 3 a0 a1 a f a4 a5 a6 (ofN (numN P false)) = some ((P : Int), ((ofN (numN P false)).length : Int), 0) := by
              have h := f_getHead 0 a0 a1 a f a4 a5 a6 (cand false false P) (cand_lt false false P HP.out) (by have := cand_len false false P; omega)
              rw [getHead_cand P HR.out HP.out a f false false, if_pos hgd, HCL.out] at h
              rw [h, ofN_length]; rfl
            have HFG := Aside0.mk hfg
            have HGD := Aside0.mk hgd
            clear hfg hgd
            go_wp2_with fail
            refine (head_Get.calls 3 a0 a1 a f a4 a5 a6 (some ⟨gq, oq, none⟩) cq (ofN (numN P false)) _ _ _ _ (Kd.Q_reads' HQ3.out).2.2 (Kd.Q_reads' HQ3.out).2.1 (GH_below HG.out (below_then HB2.out HB2.out.size HS3.out.below)) HFG.out).mono ?_
            rintro e x6 ⟨rfl, hb6⟩
            have HS6 := Aside0.mk (HS3.out.step hb6)
            have HQ6 := Aside0.mk (Kd.Q_below HQ3.out hb6)
            clear hb6 c0 c1 c2 c3 c4 c5 c6
            have HQ7 := Aside0.mk (Kd.Q_mono HQ6.out (fun k hk => hk.2))
            go_wp2_with (first
                  | ((with_reducible refine gate_builtin (b := .append) (xs := #[.tmp 55, .tmp 57]) rfl ?_)
                     (try (refine gate_guard (by rfl) ?_; dsimp only))
                     at_builtin
                     refine app_qk (w0 := w2) w2.heap.size rfl (.tmp 55) (.tmp 57) u5 (rowsAt a f P 0) _ _ rfl rfl rfl HQ7.out HS6.out.own HS6.out.below HS6.out.below.size (by have := rowsAt_len a f P 0; omega) ?_
                     intro v7 x7 ho7 hb7 hg7
                     have HO7 := Aside0.mk ho7
                     have HB7 := Aside0.mk hb7
                     have HG7 := Aside0.mk hg7
                     clear ho7 hb7 hg7))
            go_roundw
            case rel => exact Or.inr (Or.inl ⟨rfl, ⟨HS6.out.app false false (by decide) (by decide) HGD.out (by rw [HCL.out]; exact HO7.out) HB7.out HG7.out⟩⟩)
            case measure => simp [intOf]
          case neg =>
            have hfg : head_Get.f 3 a0 a1 a f a4 a5 a6 (ofN (numN P false)) = some (0, 0, 7) := by
              have h := f_getHead 0 a0 a1 a f a4 a5 a6 (cand false false P) (cand_lt false false P HP.out) (by have := cand_len false false P; omega)
              rw [getHead_cand P HR.out HP.out a f false false, if_neg hgd, HCL.out] at h
              exact h
            have HFG := Aside0.mk hfg
            have HGD := Aside0.mk hgd
            clear hfg hgd
            go_wp2_with fail
            refine (head_Get.calls 3 a0 a1 a f a4 a5 a6 (some ⟨gq, oq, none⟩) cq (ofN (numN P false)) _ _ _ _ (Kd.Q_reads' HQ3.out).2.2 (Kd.Q_reads' HQ3.out).2.1 (GH_below HG.out (below_then HB2.out HB2.out.size HS3.out.below)) HFG.out).mono ?_
            rintro e x6 ⟨rfl, hb6⟩
            have HS6 := Aside0.mk (HS3.out.step hb6)
            have HQ6 := Aside0.mk (Kd.Q_below HQ3.out hb6)
            clear hb6 c0 c1 c2 c3 c4 c5 c6
            go_wp2_with fail
            go_roundw
            case rel => exact Or.inr (Or.inl ⟨rfl, ⟨HS6.out.skip false false (by decide) (by decide) HGD.out⟩⟩)
            case measure => simp [intOf]
        · have bj : wr.cell? ⟨wo.heap.size, 1, none⟩ = some (.bool true) := (blk_cell HS.out.blk 1).trans rfl
          have HPUT := Aside0.mk (f_Put 0 P true HP.out)
          go_wp2_with fail
          refine (proto_Put.calls 3 (P : Int) true (ofN (numN P true)) _ HPUT.out).mono ?_
          rintro e x3 ⟨v, rfl, hq, hb3⟩
          have hnl := numN_len P true
          obtain ⟨gq, oq, cq, rfl, hgq1, hgq2, _⟩ := Kd.Q_form hq (by rw [ofN_length]; omega)
          have HS3 := Aside0.mk (HS.out.step hb3)
          have HLT := Aside0.mk (Kd.R_lt HS.out.own)
          have hle2 : w2.heap.size ≤ wr.heap.size := HS.out.below.size
          have HLE2 := Aside0.mk hle2
          have HQ3 := Aside0.mk (Kd.Q_lower (Kd.Q_new' hq HLT.out) hle2)
          clear hq hgq1 hgq2 hle2 bj hnl HPUT
          have hcl : (cand false true P) = numN P true := by simp [cand]
          have HCL := Aside0.mk hcl
          clear hcl hb3
          obtain ⟨c0, c1, c2, c3, c4, c5, c6⟩ := (HC2.out.below HS3.out.below)
          by_cases hgd : gd a f false true P = true
          case pos =>
            have hfg : head_Get.f 3 a0 a1 a f a4 a5 a6 (ofN (numN P true)) = some ((P : Int), ((ofN (numN P true)).length : Int), 0) := by
              have h := f_getHead 0 a0 a1 a f a4 a5 a6 (cand false true P) (cand_lt false true P HP.out) (by have := cand_len false true P; omega)
              rw [getHead_cand P HR.out HP.out a f false true, if_pos hgd, HCL.out] at h
              rw [h, ofN_length]; rfl
            have HFG := Aside0.mk hfg
            have HGD := Aside0.mk hgd
            clear hfg hgd
            go_wp2_with fail
            refine (head_Get.calls 3 a0 a1 a f a4 a5 a6 (some ⟨gq, oq, none⟩) cq (ofN (numN P true)) _ _ _ _ (Kd.Q_reads' HQ3.out).2.2 (Kd.Q_reads' HQ3.out).2.1 (GH_below HG.out (below_then HB2.out HB2.out.size HS3.out.below)) HFG.out).mono ?_
            rintro e x6 ⟨rfl, hb6⟩
            have HS6 := Aside0.mk (HS3.out.step hb6)
            have HQ6 := Aside0.mk (Kd.Q_below HQ3.out hb6)
            clear hb6 c0 c1 c2 c3 c4 c5 c6
            have HQ7 := Aside0.mk (Kd.Q_mono HQ6.out (fun k hk => hk.2))
            go_wp2_with (first
                  | ((with_reducible refine gate_builtin (b := .append) (xs := #[.tmp 55, .tmp 57]) rfl ?_)
                     (try (refine gate_guard (by rfl) ?_; dsimp only))
                     at_builtin
                     refine app_qk (w0 := w2) w2.heap.size rfl (.tmp 55) (.tmp 57) u5 (rowsAt a f P 1) _ _ rfl rfl rfl HQ7.out HS6.out.own HS6.out.below HS6.out.below.size (by have := rowsAt_len a f P 1; omega) ?_
                     intro v7 x7 ho7 hb7 hg7
                     have HO7 := Aside0.mk ho7
                     have HB7 := Aside0.mk hb7
                     have HG7 := Aside0.mk hg7
                     clear ho7 hb7 hg7))
            go_roundw
            case rel => exact Or.inr (Or.inr ⟨rfl, ⟨HS6.out.app false true (by decide) (by decide) HGD.out (by rw [HCL.out]; exact HO7.out) HB7.out HG7.out⟩⟩)
            case measure => simp [intOf]
          case neg =>
            have hfg : head_Get.f 3 a0 a1 a f a4 a5 a6 (ofN (numN P true)) = some (0, 0, 7) := by
              have h := f_getHead 0 a0 a1 a f a4 a5 a6 (cand false true P) (cand_lt false true P HP.out) (by have := cand_len false true P; omega)
              rw [getHead_cand P HR.out HP.out a f false true, if_neg hgd, HCL.out] at h
              exact h
            have HFG := Aside0.mk hfg
            have HGD := Aside0.mk hgd
            clear hfg hgd
            go_wp2_with fail
            refine (head_Get.calls 3 a0 a1 a f a4 a5 a6 (some ⟨gq, oq, none⟩) cq (ofN (numN P true)) _ _ _ _ (Kd.Q_reads' HQ3.out).2.2 (Kd.Q_reads' HQ3.out).2.1 (GH_below HG.out (below_then HB2.out HB2.out.size HS3.out.below)) HFG.out).mono ?_
            rintro e x6 ⟨rfl, hb6⟩
            have HS6 := Aside0.mk (HS3.out.step hb6)
            have HQ6 := Aside0.mk (Kd.Q_below HQ3.out hb6)
            clear hb6 c0 c1 c2 c3 c4 c5 c6
            go_wp2_with fail
            go_roundw
            case rel => exact Or.inr (Or.inr ⟨rfl, ⟨HS6.out.skip false true (by decide) (by decide) HGD.out⟩⟩)
            case measure => simp [intOf]
        · go_wp2_with fail
          go_roundw
          case rel => exact Or.inr (Or.inl ⟨rfl, ⟨HS.out.own, HS.out.below⟩⟩)
          case measure => simp [intOf]
    · obtain ⟨wo, rfl⟩ : ∃ wo : World, wo = wr := ⟨_, rfl⟩
      have bi : wo.cell? ⟨w1.heap.size, 1, none⟩ = some (.bool true) := (pw_cell_below HO.out.2 (HARR.out 1))
      go_wp2_with fail
      obtain ⟨w3, hw3⟩ : ∃ W, W = wo.alloc (.cells #[.bool false, .bool true] 4) := ⟨_, rfl⟩
      have hb3 : Below wo.heap.size wo w3 := by rw [hw3]; exact below_alloc (Below.refl _ _) _
      have hblk : w3.heap[wo.heap.size]? = some (.cells #[.bool false, .bool true] 4 (0, 0)) := by rw [hw3]; exact heap_alloc_new wo _
      rw [← hw3]
      have HS0 := Aside0.mk (show St w2 w3 a f P 2 wo.heap.size u5 from ⟨Kd.R_below HO.out.1 hb3, below_step HO.out.2 hb3, hblk⟩)
      clear hw3 hb3 hblk bi
      go_loopw [5, 23] (fun v5 v23 wr => (v23 = .int .i64 0 ∧ Aside0 (St w2 wr a f P 2 wo.heap.size v5)) ∨ (v23 = .int .i64 1 ∧ Aside0 (St w2 wr a f P 3 wo.heap.size v5)) ∨ (v23 = .int .i64 2 ∧ Aside0 (St w2 wr a f P 4 wo.heap.size v5))) (fun _ v _ => 2 - (intOf v).toNat)
      case atStart => exact Or.inl ⟨rfl, HS0⟩
      case round =>
        clear HS0 HO
        rcases hrel with ⟨rfl, HS⟩ | ⟨rfl, HS⟩ | ⟨rfl, HS⟩
        · have bj : wr.cell? ⟨wo.heap.size, 0, none⟩ = some (.bool false) := (blk_cell HS.out.blk 0).trans rfl
          have HPUT := Aside0.mk (f_Put 0 P false HP.out)
          go_wp2_with fail
          refine (proto_Put.calls 3 (P : Int) false (ofN (numN P false)) _ HPUT.out).mono ?_
          rintro e x3 ⟨v, rfl, hq, hb3⟩
          have hnl := numN_len P false
          obtain ⟨gq, oq, cq, rfl, hgq1, hgq2, _⟩ := Kd.Q_form hq (by rw [ofN_length]; omega)
          have HS3 := Aside0.mk (HS.out.step hb3)
          have HLT := Aside0.mk (Kd.R_lt HS.out.own)
          have hle2 : w2.heap.size ≤ wr.heap.size := HS.out.below.size
          have HLE2 := Aside0.mk hle2
          have HQ3 := Aside0.mk (Kd.Q_lower (Kd.Q_new' hq HLT.out) hle2)
          clear hq hgq1 hgq2 hle2 bj hnl HPUT
          obtain ⟨q0, q1⟩ := GH_below HG.out (below_then HB2.out HB2.out.size HS3.out.below)
          have HN3 := Aside0.mk (Kd.Q_reads' HQ3.out).2.2
          have hg := heap_alloc_new x3 (.cells #[.int .u8 0, .int .u8 0] 82)
          have hrow := made_row x3 #[.int .u8 0, .int .u8 0] #[.int .u8 255, .int .u8 3] 82
          have hsz := hi82
          have HLEx := Aside0.mk hb3.size
          clear hb3
          go_upto_region 11 with (first | (with_reducible refine wpList_store_row rfl 82 (.tmp 11) (.tmp 31) rfl x3.heap.size #[.int .u8 255, .int .u8 3] rfl rfl 82 #[.int .u8 0, .int .u8 0] hg hsz rfl (by decide) ?_; rw [hrow]))
          clear hg hrow hsz q0 q1
          have hcut := fun W => full_cut2 ⟨x3.heap.size, 0, none⟩ W
          have HF := Aside0.mk (full_at x3)
          have hb4 := below_alloc (Below.refl x3.heap.size x3) (.cells #[.int .u8 255, .int .u8 3] 82)
          obtain ⟨adr, had, hnews⟩ := news_at (Kd.C_below HN3.out hb4) (by rw [ofN_length]; have := numN_len P false; omega)
          obtain rfl := Option.some.inj had
          have HNW := Aside0.mk hnews
          have HS4 := Aside0.mk (HS3.out.step hb4)
          have HB4 := Aside0.mk (below_alloc (Below.refl x3.heap.size x3) (.cells #[.int .u8 255, .int .u8 3] 82))
          have HLT4 := Aside0.mk (show ∀ k, u5.ownBlock = some k → k < (x3.alloc (.cells #[.int .u8 255, .int .u8 3] 82)).heap.size from fun k hk => Nat.lt_of_lt_of_le (HLT.out k hk) (Nat.le_trans HLEx.out HB4.out.size))
          clear hnews had hb4
          generalize x3.alloc (.cells #[.int .u8 255, .int .u8 3] 82) = x4 at HF HNW HS4 HB4 HLT4 ⊢
          obtain ⟨i0, hi0, hz0, hsz0, hby0⟩ := info_parts info5
          go_upto_region 12 with (first
                | ((with_reducible refine gate_builtin (b := .append) (xs := #[.tmp 32, .tmp 33]) rfl ?_)
                   (try (refine gate_guard (by rfl) ?_; dsimp only))
                   at_builtin
                   refine wpList_append_grows _ rfl (.tmp 32) (.tmp 33) 35 rfl 5 i0 (.int .u8 0) 1 1 Tryd.underlying35 hi0 hz0 hsz0 hby0 rfl (by decide) (some ⟨x3.heap.size, 0, none⟩) 2 2 [.int .u8 255, .int .u8 3] rfl (fun h => by cases h) rfl (fun b hb => by cases hb; exact HF.out) ⟨gq, oq, none⟩ (ofN (numN P false)).length cq (encs (Value.int .u8) (ofN (numN P false))) rfl (by rw [encs_length, Nat.mul_one]) HNW.out (fun u hu => by obtain ⟨x, _, rfl⟩ := List.mem_map.1 hu; rfl) (by rw [ofN_length]; have := numN_len P false; omega) (by rw [ofN_length]; have := numN_len P false; simp only [maxLen]; omega) (by rw [ofN_length]; have := numN_len P false; omega) ?_
                   intro v' x5 hown hgr
                   have HOW := Aside0.mk hown
                   have HGR := Aside0.mk hgr
                   clear hown hgr))
          have hq5 : (Kd.int .u8).Q 5 x5 x4.heap.size (fun _ => True) v' (ofN (cand true false P)) := by
            have e : ofN (cand true false P) = [255, 3] ++ ofN (numN P false) := by simp [cand, ofN]
            rw [e]
            exact Kd.Q_of_R (Kd.R_of_own (enc := Value.int .u8) (xs := [255, 3] ++ ofN (numN P false)) (by have h_ := HOW.out; rw [show ([255, 3] ++ ofN (numN P false) : List Int).length = 2 + (ofN (numN P false)).length by rw [List.length_append]; rfl]; exact h_) (fun _ _ => trivial))
          have hb5 : Below x4.heap.size x4 x5 := (Below.refl _ _).grown HGR.out (Nat.le_refl _) (fun k hk => by cases hk)
          have HS5 := Aside0.mk (HS4.out.step hb5)
          have hle4 : w2.heap.size ≤ x4.heap.size := HS4.out.below.size
          have HQ5 := Aside0.mk (Kd.Q_lower (Kd.Q_new' hq5 HLT4.out) hle4)
          obtain ⟨A5, c5_, rfl, hcc, hqc⟩ := Kd.Q_reads HQ5.out
          clear hq5 hb5 hle4 hcc hqc hcut i0 hi0 hz0 hsz0 hby0
          obtain ⟨c0, c1, c2, c3, c4, c5, c6⟩ := (HC2.out.below HS5.out.below)
          by_cases hgd : gd a f true false P = true
          case pos =>
            have hfg : head_Get.f 3 a0 a1 a f a4 a5 a6 (ofN (cand true false P)) = some ((P : Int), ((ofN (cand true false P)).length : Int), 0) := by
              have h := f_getHead 0 a0 a1 a f a4 a5 a6 (cand true false P) (cand_lt true false P HP.out) (by have := cand_len true false P; omega)
              rw [getHead_cand P HR.out HP.out a f true false, if_pos hgd] at h
              rw [h, ofN_length]; rfl
            have HFG := Aside0.mk hfg
            have HGD := Aside0.mk hgd
            clear hfg hgd
            go_wp2_with fail
            refine (head_Get.calls 3 a0 a1 a f a4 a5 a6 A5 c5_ (ofN (cand true false P)) _ _ _ _ (Kd.Q_reads' HQ5.out).2.2 (Kd.Q_reads' HQ5.out).2.1 (GH_below HG.out (below_then HB2.out HB2.out.size HS5.out.below)) HFG.out).mono ?_
            rintro e x6 ⟨rfl, hb6⟩
            have HS6 := Aside0.mk (HS5.out.step hb6)
            have HQ6 := Aside0.mk (Kd.Q_below HQ5.out hb6)
            clear hb6 c0 c1 c2 c3 c4 c5 c6
            have HQ7 := Aside0.mk (Kd.Q_mono HQ6.out (fun k hk => hk.2))
            go_wp2_with (first
                  | ((with_reducible refine gate_builtin (b := .append) (xs := #[.tmp 55, .tmp 57]) rfl ?_)
                     (try (refine gate_guard (by rfl) ?_; dsimp only))
                     at_builtin
                     refine app_qk (w0 := w2) w2.heap.size rfl (.tmp 55) (.tmp 57) u5 (rowsAt a f P 2) _ _ rfl rfl rfl HQ7.out HS6.out.own HS6.out.below HS6.out.below.size (by have := rowsAt_len a f P 2; omega) ?_
                     intro v7 x7 ho7 hb7 hg7
                     have HO7 := Aside0.mk ho7
                     have HB7 := Aside0.mk hb7
                     have HG7 := Aside0.mk hg7
                     clear ho7 hb7 hg7))
            go_roundw
            case rel => exact Or.inr (Or.inl ⟨rfl, ⟨HS6.out.app true false (by decide) (by decide) HGD.out HO7.out HB7.out HG7.out⟩⟩)
            case measure => simp [intOf]
          case neg =>
            have hfg : head_Get.f 3 a0 a1 a f a4 a5 a6 (ofN (cand true false P)) = some (0, 0, 7) := by
              have h := f_getHead 0 a0 a1 a f a4 a5 a6 (cand true false P) (cand_lt true false P HP.out) (by have := cand_len true false P; omega)
              rw [getHead_cand P HR.out HP.out a f true false, if_neg hgd] at h
              exact h
            have HFG := Aside0.mk hfg
            have HGD := Aside0.mk hgd
            clear hfg hgd
            go_wp2_with fail
            refine (head_Get.calls 3 a0 a1 a f a4 a5 a6 A5 c5_ (ofN (cand true false P)) _ _ _ _ (Kd.Q_reads' HQ5.out).2.2 (Kd.Q_reads' HQ5.out).2.1 (GH_below HG.out (below_then HB2.out HB2.out.size HS5.out.below)) HFG.out).mono ?_
            rintro e x6 ⟨rfl, hb6⟩
            have HS6 := Aside0.mk (HS5.out.step hb6)
            have HQ6 := Aside0.mk (Kd.Q_below HQ5.out hb6)
            clear hb6 c0 c1 c2 c3 c4 c5 c6
            go_wp2_with fail
            go_roundw
            case rel => exact Or.inr (Or.inl ⟨rfl, ⟨HS6.out.skip true false (by decide) (by decide) HGD.out⟩⟩)
            case measure => simp [intOf]
        · have bj : wr.cell? ⟨wo.heap.size, 1, none⟩ = some (.bool true) := (blk_cell HS.out.blk 1).trans rfl
          have HPUT := Aside0.mk (f_Put 0 P true HP.out)
          go_wp2_with fail
          refine (proto_Put.calls 3 (P : Int) true (ofN (numN P true)) _ HPUT.out).mono ?_
          rintro e x3 ⟨v, rfl, hq, hb3⟩
          have hnl := numN_len P true
          obtain ⟨gq, oq, cq, rfl, hgq1, hgq2, _⟩ := Kd.Q_form hq (by rw [ofN_length]; omega)
          have HS3 := Aside0.mk (HS.out.step hb3)
          have HLT := Aside0.mk (Kd.R_lt HS.out.own)
          have hle2 : w2.heap.size ≤ wr.heap.size := HS.out.below.size
          have HLE2 := Aside0.mk hle2
          have HQ3 := Aside0.mk (Kd.Q_lower (Kd.Q_new' hq HLT.out) hle2)
          clear hq hgq1 hgq2 hle2 bj hnl HPUT
          obtain ⟨q0, q1⟩ := GH_below HG.out (below_then HB2.out HB2.out.size HS3.out.below)
          have HN3 := Aside0.mk (Kd.Q_reads' HQ3.out).2.2
          have hg := heap_alloc_new x3 (.cells #[.int .u8 0, .int .u8 0] 82)
          have hrow := made_row x3 #[.int .u8 0, .int .u8 0] #[.int .u8 255, .int .u8 3] 82
          have hsz := hi82
          have HLEx := Aside0.mk hb3.size
          clear hb3
          go_upto_region 11 with (first | (with_reducible refine wpList_store_row rfl 82 (.tmp 11) (.tmp 31) rfl x3.heap.size #[.int .u8 255, .int .u8 3] rfl rfl 82 #[.int .u8 0, .int .u8 0] hg hsz rfl (by decide) ?_; rw [hrow]))
          clear hg hrow hsz q0 q1
          have hcut := fun W => full_cut2 ⟨x3.heap.size, 0, none⟩ W
          have HF := Aside0.mk (full_at x3)
          have hb4 := below_alloc (Below.refl x3.heap.size x3) (.cells #[.int .u8 255, .int .u8 3] 82)
          obtain ⟨adr, had, hnews⟩ := news_at (Kd.C_below HN3.out hb4) (by rw [ofN_length]; have := numN_len P true; omega)
          obtain rfl := Option.some.inj had
          have HNW := Aside0.mk hnews
          have HS4 := Aside0.mk (HS3.out.step hb4)
          have HB4 := Aside0.mk (below_alloc (Below.refl x3.heap.size x3) (.cells #[.int .u8 255, .int .u8 3] 82))
          have HLT4 := Aside0.mk (show ∀ k, u5.ownBlock = some k → k < (x3.alloc (.cells #[.int .u8 255, .int .u8 3] 82)).heap.size from fun k hk => Nat.lt_of_lt_of_le (HLT.out k hk) (Nat.le_trans HLEx.out HB4.out.size))
          clear hnews had hb4
          generalize x3.alloc (.cells #[.int .u8 255, .int .u8 3] 82) = x4 at HF HNW HS4 HB4 HLT4 ⊢
          obtain ⟨i0, hi0, hz0, hsz0, hby0⟩ := info_parts info5
          go_upto_region 12 with (first
                | ((with_reducible refine gate_builtin (b := .append) (xs := #[.tmp 32, .tmp 33]) rfl ?_)
                   (try (refine gate_guard (by rfl) ?_; dsimp only))
                   at_builtin
                   refine wpList_append_grows _ rfl (.tmp 32) (.tmp 33) 35 rfl 5 i0 (.int .u8 0) 1 1 Tryd.underlying35 hi0 hz0 hsz0 hby0 rfl (by decide) (some ⟨x3.heap.size, 0, none⟩) 2 2 [.int .u8 255, .int .u8 3] rfl (fun h => by cases h) rfl (fun b hb => by cases hb; exact HF.out) ⟨gq, oq, none⟩ (ofN (numN P true)).length cq (encs (Value.int .u8) (ofN (numN P true))) rfl (by rw [encs_length, Nat.mul_one]) HNW.out (fun u hu => by obtain ⟨x, _, rfl⟩ := List.mem_map.1 hu; rfl) (by rw [ofN_length]; have := numN_len P true; omega) (by rw [ofN_length]; have := numN_len P true; simp only [maxLen]; omega) (by rw [ofN_length]; have := numN_len P true; omega) ?_
                   intro v' x5 hown hgr
                   have HOW := Aside0.mk hown
                   have HGR := Aside0.mk hgr
                   clear hown hgr))
          have hq5 : (Kd.int .u8).Q 5 x5 x4.heap.size (fun _ => True) v' (ofN (cand true true P)) := by
            have e : ofN (cand true true P) = [255, 3] ++ ofN (numN P true) := by simp [cand, ofN]
            rw [e]
            exact Kd.Q_of_R (Kd.R_of_own (enc := Value.int .u8) (xs := [255, 3] ++ ofN (numN P true)) (by have h_ := HOW.out; rw [show ([255, 3] ++ ofN (numN P true) : List Int).length = 2 + (ofN (numN P true)).length by rw [List.length_append]; rfl]; exact h_) (fun _ _ => trivial))
          have hb5 : Below x4.heap.size x4 x5 := (Below.refl _ _).grown HGR.out (Nat.le_refl _) (fun k hk => by cases hk)
          have HS5 := Aside0.mk (HS4.out.step hb5)
          have hle4 : w2.heap.size ≤ x4.heap.size := HS4.out.below.size
          have HQ5 := Aside0.mk (Kd.Q_lower (Kd.Q_new' hq5 HLT4.out) hle4)
          obtain ⟨A5, c5_, rfl, hcc, hqc⟩ := Kd.Q_reads HQ5.out
          clear hq5 hb5 hle4 hcc hqc hcut i0 hi0 hz0 hsz0 hby0
          obtain ⟨c0, c1, c2, c3, c4, c5, c6⟩ := (HC2.out.below HS5.out.below)
          by_cases hgd : gd a f true true P = true
          case pos =>
            have hfg : head_Get.f 3 a0 a1 a f a4 a5 a6 (ofN (cand true true P)) = some ((P : Int), ((ofN (cand true true P)).length : Int), 0) := by
              have h := f_getHead 0 a0 a1 a f a4 a5 a6 (cand true true P) (cand_lt true true P HP.out) (by have := cand_len true true P; omega)
              rw [getHead_cand P HR.out HP.out a f true true, if_pos hgd] at h
              rw [h, ofN_length]; rfl
            have HFG := Aside0.mk hfg
            have HGD := Aside0.mk hgd
            clear hfg hgd
            go_wp2_with fail
            refine (head_Get.calls 3 a0 a1 a f a4 a5 a6 A5 c5_ (ofN (cand true true P)) _ _ _ _ (Kd.Q_reads' HQ5.out).2.2 (Kd.Q_reads' HQ5.out).2.1 (GH_below HG.out (below_then HB2.out HB2.out.size HS5.out.below)) HFG.out).mono ?_
            rintro e x6 ⟨rfl, hb6⟩
            have HS6 := Aside0.mk (HS5.out.step hb6)
            have HQ6 := Aside0.mk (Kd.Q_below HQ5.out hb6)
            clear hb6 c0 c1 c2 c3 c4 c5 c6
            have HQ7 := Aside0.mk (Kd.Q_mono HQ6.out (fun k hk => hk.2))
            go_wp2_with (first
                  | ((with_reducible refine gate_builtin (b := .append) (xs := #[.tmp 55, .tmp 57]) rfl ?_)
                     (try (refine gate_guard (by rfl) ?_; dsimp only))
                     at_builtin
                     refine app_qk (w0 := w2) w2.heap.size rfl (.tmp 55) (.tmp 57) u5 (rowsAt a f P 3) _ _ rfl rfl rfl HQ7.out HS6.out.own HS6.out.below HS6.out.below.size (by have := rowsAt_len a f P 3; omega) ?_
                     intro v7 x7 ho7 hb7 hg7
                     have HO7 := Aside0.mk ho7
                     have HB7 := Aside0.mk hb7
                     have HG7 := Aside0.mk hg7
                     clear ho7 hb7 hg7))
            go_roundw
            case rel => exact Or.inr (Or.inr ⟨rfl, ⟨HS6.out.app true true (by decide) (by decide) HGD.out HO7.out HB7.out HG7.out⟩⟩)
            case measure => simp [intOf]
          case neg =>
            have hfg : head_Get.f 3 a0 a1 a f a4 a5 a6 (ofN (cand true true P)) = some (0, 0, 7) := by
              have h := f_getHead 0 a0 a1 a f a4 a5 a6 (cand true true P) (cand_lt true true P HP.out) (by have := cand_len true true P; omega)
              rw [getHead_cand P HR.out HP.out a f true true, if_neg hgd] at h
              exact h
            have HFG := Aside0.mk hfg
            have HGD := Aside0.mk hgd
            clear hfg hgd
            go_wp2_with fail
            refine (head_Get.calls 3 a0 a1 a f a4 a5 a6 A5 c5_ (ofN (cand true true P)) _ _ _ _ (Kd.Q_reads' HQ5.out).2.2 (Kd.Q_reads' HQ5.out).2.1 (GH_below HG.out (below_then HB2.out HB2.out.size HS5.out.below)) HFG.out).mono ?_
            rintro e x6 ⟨rfl, hb6⟩
            have HS6 := Aside0.mk (HS5.out.step hb6)
            have HQ6 := Aside0.mk (Kd.Q_below HQ5.out hb6)
            clear hb6 c0 c1 c2 c3 c4 c5 c6
            go_wp2_with fail
            go_roundw
            case rel => exact Or.inr (Or.inr ⟨rfl, ⟨HS6.out.skip true true (by decide) (by decide) HGD.out⟩⟩)
            case measure => simp [intOf]
        · go_wp2_with fail
          go_roundw
          case rel => exact Or.inr (Or.inr ⟨rfl, ⟨HS.out.own, HS.out.below⟩⟩)
          case measure => simp [intOf]
    · have HBW := Aside0.mk (below_then HB2.out HB2.out.size HO.out.2)
      have HOW := Aside0.mk (Kd.R_lower HO.out.1 HB2.out.size)
      go_wp2_with fail
      refine (HPOST.out _ _ HBW.out HOW.out).mono ?_
      rintro e w9 ⟨rfl, h66⟩
      have H66 := Aside0.mk h66
      clear h66
      go_wp2_with fail
      refine H66.out.mono ?_
      rintro e w10 ⟨r, rfl, hp⟩
      have HPP := Aside0.mk hp
      clear hp
      go_wp2_with fail
      exact HPP.out
end Go.Proofs.YtggpejjfgphihaaDoor.Given
end

section
namespace Go.Proofs.YtggpejjfgphihaaDoor.Given
open Go.RowKit Go.Proofs.YtggpejjfgphihaaDoorW.PrintWords Go.Proofs.YtggpejjfgphihaaDoorW.PrintLast Go.Proofs.YtggpejjfgphihaaDoorW.PrintMore
open Go.Proofs.YtggpejjfgphihaaDoor.H
set_option linter.unusedVariables false
set_option linter.unusedSimpArgs false
def byt (l : List Int) : ByteArray := ⟨(Lib.bytesOf l).toArray⟩
def cb (l0 l1 : List Int) : Int := Extern.BytealgCompare.cmp (byt l0) (byt l1)
theorem cb_self (l : List Int) : cb l l = 0 := by
  unfold cb Extern.BytealgCompare.cmp
  have h : (List.range (min (byt l).size (byt l).size)).find? (fun i => (byt l)[i]! != (byt l)[i]!) = none := by
    rw [List.find?_eq_none]; simp
  rw [h]; simp
theorem run_byt (A : Option Addr) (c : Nat) (l : List Int) (w : World) (h : Kd.C (Kd.int .u8) w A l.length l) : (Extern.Bytes.bytesOf (.slice A l.length c)).run Tryd.prog w = .ok (byt l) w := by
  cases A with
  | none =>
    have h0 : l = [] := by
      obtain ⟨_, _, hh⟩ := Kd.reads_of_C (d := (0 : Int)) h
      cases l with
      | nil => rfl
      | cons x xs => obtain ⟨ad, ha, _⟩ := hh (by simp); cases ha
    subst h0
    rfl
  | some ad =>
    have hc : ∀ j x, l[j]? = some x → w.cell? (ad.add j) = some (.int .u8 x) := by
      intro j x hx
      obtain ⟨hj, hx2⟩ := List.getElem?_eq_some_iff.1 hx
      obtain ⟨_, _, hh⟩ := Kd.reads_of_C (d := (0 : Int)) h
      obtain ⟨ad', ha, hcell⟩ := hh (by omega)
      cases ha
      rw [hcell j hj]
      simp [List.getD_eq_getElem?_getD, hx]
    have := Lib.run_loadBytesX (P := Tryd.prog) (w := w) l ad .empty hc
    unfold Extern.Bytes.bytesOf byt
    rw [this]
    simp [ByteArray.empty, ByteArray.emptyWithCapacity]
    all_goals rfl
set_option maxHeartbeats 1000000 in
set_option maxRecDepth 100000 in
theorem compare_calls (A0 : Option Addr) (c0 : Nat) (l0 : List Int) (A1 : Option Addr) (c1 : Nat) (l1 : List Int) (w : World) (hr0 : Kd.C (Kd.int .u8) w A0 l0.length l0) (hr1 : Kd.C (Kd.int .u8) w A1 l1.length l1) :
    Calls Tryd.prog 65 #[.slice A0 l0.length c0, .slice A1 l1.length c1] w fun e w' => e = .returned (.int .i64 (cb l0 l1)) ∧ w' = w := by
  have hrun : (Extern.BytealgCompare.compare #[.slice A0 l0.length c0, .slice A1 l1.length c1]).run Tryd.prog w = .ok (.int .i64 (cb l0 l1)) w := by
    change Sem.run Tryd.prog (do pure (goInt (Extern.BytealgCompare.cmp (← Extern.Bytes.bytesOf (.slice A0 l0.length c0)) (← Extern.Bytes.bytesOf (.slice A1 l1.length c1))))) w = _
    simp only [Sem.run_bind, run_byt A0 c0 l0 w hr0, run_byt A1 c1 l1 w hr1, Result.andThen_ok, Sem.run_pure]
    rfl
  have HRUN := Aside0.mk hrun
  clear hrun hr0 hr1
  go_enter Tryd.func65, Tryd.ntmps65
  go_wp2
  rw [run_callFunc_extern Tryd.func83 (by kernel_rfl) (by kernel_rfl) (by kernel_rfl) (e := Extern.BytealgCompare.compare) (by kernel_rfl), HRUN.out]
  simp only [Result.andThen]
  rw [Oper.upon_value]
  go_wp2
  go_ret
  exact ⟨rfl, rfl⟩
def orV (a b : Int) : Int := if a = 0 then b else a
def cmpV (l0 l1 : List Int) : Int := orV (wrap64 ((l0.length : Int) - (l1.length : Int))) (cb l0 l1)
set_option maxHeartbeats 1000000 in
set_option maxRecDepth 100000 in
theorem or_calls (a b : Int) (g : Nat) (w : World) (h0 : w.cell? ⟨g, 0, none⟩ = some (.int .i64 a)) (h1 : w.cell? ⟨g, 1, none⟩ = some (.int .i64 b)) :
    Calls Tryd.prog 64 #[.slice (some ⟨g, 0, none⟩) 2 2] w fun e w' => e = .returned (.int .i64 (if a = 0 then b else a)) ∧ w' = w := by
  by_cases ha : a = 0
  · subst ha
    by_cases hb : b = 0
    · subst hb
      go_enter Tryd.func64, Tryd.ntmps64
      go_wp2
      go_loop [8] (fun v => v = .int .i64 0 ∨ v = .int .i64 1 ∨ v = .int .i64 2) (fun v => 2 - (intOf v).toNat)
      case atStart => exact Or.inl rfl
      case round =>
        rcases hrel with rfl | rfl | rfl
        · go_wp2
          go_round
          case rel => exact Or.inr (Or.inl rfl)
          case measure => simp [intOf]
        · go_wp2
          go_round
          case rel => exact Or.inr (Or.inr rfl)
          case measure => simp [intOf]
        · go_wp2
          go_ret
          exact ⟨by first | rfl | (simp; done), rfl⟩
    · have hb1 : (b == 0) = false := beq_eq_false_iff_ne.2 hb
      have hb2 : (b != 0) = true := bne_iff_ne.2 hb
      have HB := Aside0.mk hb
      clear hb
      go_enter Tryd.func64, Tryd.ntmps64
      go_wp2
      go_loop [8] (fun v => v = .int .i64 0 ∨ v = .int .i64 1) (fun v => 2 - (intOf v).toNat)
      case atStart => exact Or.inl rfl
      case round =>
        rcases hrel with rfl | rfl
        · go_wp2
          go_round
          case rel => exact Or.inr rfl
          case measure => simp [intOf]
        · go_wp2
          go_ret
          exact ⟨by first | rfl | (simp; done), rfl⟩
  · have hb1 : (a == 0) = false := beq_eq_false_iff_ne.2 ha
    have hb2 : (a != 0) = true := bne_iff_ne.2 ha
    have HB := Aside0.mk ha
    clear ha
    go_enter Tryd.func64, Tryd.ntmps64
    go_wp2
    go_loop [8] (fun v => v = .int .i64 0) (fun v => 2 - (intOf v).toNat)
    case atStart => exact rfl
    case round =>
      obtain rfl := hrel
      go_wp2
      all_goals first
        | (go_ret; exact ⟨by rw [if_neg HB.out]; rfl, rfl⟩)
        | (exfalso; have := HB.out; omega)
        | (go_ret; exact ⟨by simp [HB.out], rfl⟩)
theorem or_calls' (a b : Int) (g : Nat) (w : World) (h0 : w.cell? ⟨g, 0, none⟩ = some (.int .i64 a)) (h1 : w.cell? ⟨g, 1, none⟩ = some (.int .i64 b)) :
    Calls Tryd.prog 64 #[.slice (some ⟨g, 0, none⟩) 2 2] w fun e w' => e = .returned (.int .i64 (orV a b)) ∧ w' = w := or_calls a b g w h0 h1
set_option maxHeartbeats 1000000 in
set_option maxRecDepth 100000 in
theorem cmp_calls (A0 : Option Addr) (c0 : Nat) (l0 : List Int) (A1 : Option Addr) (c1 : Nat) (l1 : List Int) (w : World) (hr0 : Kd.C (Kd.int .u8) w A0 l0.length l0) (hr1 : Kd.C (Kd.int .u8) w A1 l1.length l1) :
    Calls Tryd.prog 63 #[.slice A0 l0.length c0, .slice A1 l1.length c1] w fun e w' => e = .returned (.int .i64 (cmpV l0 l1)) ∧ ∃ q os, w' = Sort.grow (w.drewN q) os := by
  have HR0 := Aside0.mk hr0
  have HR1 := Aside0.mk hr1
  obtain ⟨dv, hdv⟩ : ∃ dv, dv = wrap64 ((l0.length : Int) - (l1.length : Int)) := ⟨_, rfl⟩
  have hdw : IntKind.i64.wrap ((l0.length : Int) - (l1.length : Int)) = dv := by rw [i64_w, hdv]
  have hdx : wrap64 ((l0.length : Int) - (l1.length : Int)) = dv := hdv.symm
  have HDV := Aside0.mk hdv
  clear hr0 hr1 hdv
  go_enter Tryd.func63, Tryd.ntmps63
  go_wp2_with fail
  refine (compare_calls A0 c0 l0 A1 c1 l1 _ HR0.out HR1.out).mono ?_
  rintro e w1 ⟨rfl, rfl⟩
  go_wp2_with fail
  refine (or_calls' dv (cb l0 l1) w1.heap.size _ (cell_of_row _ _ 0 _ 3 (0, 0) (heap_alloc_new w1 _)) (cell_of_row _ _ 1 _ 3 (0, 0) (heap_alloc_new w1 _))).mono ?_
  rintro e w2 ⟨rfl, rfl⟩
  go_wp2_with fail
  go_ret
  exact ⟨by rw [HDV.out]; rfl, 0, #[.cells #[.int .i64 dv, .int .i64 (cb l0 l1)] 3], by rw [Sort.alloc_eq_grow]; rfl⟩
end Go.Proofs.YtggpejjfgphihaaDoor.Given
end

section
namespace Go.Proofs.YtggpejjfgphihaaDoor.Given
open Go.RowKit Go.Proofs.YtggpejjfgphihaaDoorW.PrintWords Go.Proofs.YtggpejjfgphihaaDoorW.PrintLast Go.Proofs.YtggpejjfgphihaaDoorW.PrintMore
open Go.Proofs.YtggpejjfgphihaaDoor.H Go.Shelf Go.Lib Go.Sort
set_option linter.unusedVariables false
set_option linter.unusedSimpArgs false
def rho : Ren := ⟨fun n => match n with | 20 => 91 | n => n, fun n => match n with | 22 => 47 | 24 => 35 | 25 => 92 | n => n, fun n => n⟩
theorem lays20 : SlLaysF.n20 Tryd.prog rho where
  mixed := by kernel_rfl
  f20 := ⟨"slices.insertionSortCmpFunc[[]byte]", by decide, Tryd.func91.trans (by kernel_rfl)⟩
  t0 := by kernel_rfl
  a0 := fun w => by kernel_rfl
  z0 := fun w => by kernel_rfl
  v0 := fun w => by kernel_rfl
  t3 := by kernel_rfl
  a3 := fun w => by kernel_rfl
  z3 := fun w => by kernel_rfl
  v3 := fun w => by kernel_rfl
  t4 := by kernel_rfl
  a4 := fun w => by kernel_rfl
  z4 := fun w => by kernel_rfl
  v4 := fun w => by kernel_rfl
  t22 := by kernel_rfl
  a22 := fun w => by kernel_rfl
  z22 := fun w => by kernel_rfl
  v22 := fun w => by kernel_rfl
  a24 := fun w => by kernel_rfl
  z24 := fun w => by kernel_rfl
  t25 := by kernel_rfl
  a25 := fun w => by kernel_rfl
  z25 := fun w => by kernel_rfl
  v25 := fun w => by kernel_rfl
def SomeInt (w : World) (e : Ending) (w' : World) : Prop := ∃ r : Int, e = .returned (.int .i64 r) ∧ w' = w
set_option maxHeartbeats 2000000 in
set_option maxRecDepth 100000 in
theorem len64_calls (n : Int) (h : n = 1 ∨ n = 2 ∨ n = 3 ∨ n = 4) (w : World) : Calls Tryd.prog 100 #[.int .u64 n] w (SomeInt w) := by
  rcases h with rfl | rfl | rfl | rfl
  all_goals
    go_enter Tryd.func100, Tryd.ntmps100
    go_wp2
    go_ret
    exact ⟨_, rfl, rfl⟩
set_option maxHeartbeats 2000000 in
set_option maxRecDepth 100000 in
theorem len_calls (n : Int) (h : n = 1 ∨ n = 2 ∨ n = 3 ∨ n = 4) (w : World) : Calls Tryd.prog 82 #[.int .u64 n] w (SomeInt w) := by
  have H := Aside0.mk h
  clear h
  go_enter Tryd.func82, Tryd.ntmps82
  go_wp2_with fail
  refine (len64_calls n H.out _).mono ?_
  rintro e w' ⟨r, rfl, rfl⟩
  go_wp2_with fail
  go_ret
  exact ⟨_, rfl, rfl⟩
def encR (As : Nat → Option Addr) (Ls : Nat → List Int) (Cs : Nat → Nat) (i : Nat) : Value := .slice (As i) (Ls i).length (Cs i)
def cfR (Ls : Nat → List Int) (i j : Nat) : Int := cmpV (Ls i) (Ls j)
structure Rows4 (As : Nat → Option Addr) (Ls : Nat → List Int) (Cs : Nat → Nat) (w : World) (blk n : Nat) : Prop where
  reads : ∀ i, Kd.C (Kd.int .u8) w (As i) (Ls i).length (Ls i)
  apart : ∀ i ad, As i = some ad → ad.block ≠ blk ∧ (0 < (Ls i).length → ad.block < w.heap.size)
  holds : Sort.Holds (encR As Ls Cs) w blk 0 (Array.range n)
  lt : blk < w.heap.size
theorem sw_cell {enc : Nat → Value} {w : World} {blk m : Nat} {dk : Array Nat} {os : Array Obj} (a : Addr) (h : a.block ≠ blk) (hl : a.block < w.heap.size) : (sortWorld enc w blk 0 m dk os).cell? a = w.cell? a := by
  unfold sortWorld
  rw [Sort.cell?_grow _ _ _ (by rw [size_putRow]; exact hl), Sort.cell?_putRow_other _ _ _ _ _ _ (Or.inl h)]
  rfl
theorem C_moved {w w1 : World} {A : Option Addr} {l : List Int} (h : Kd.C (Kd.int .u8) w A l.length l) (hm : ∀ ad, A = some ad → 0 < l.length → ∀ j, w1.cell? (ad.add j) = w.cell? (ad.add j)) : Kd.C (Kd.int .u8) w1 A l.length l := by
  refine ⟨h.1, h.2.1, fun hn => ?_⟩
  obtain ⟨ad, ha, hc⟩ := h.2.2 hn
  refine ⟨ad, ha, fun j p hj => ?_⟩
  obtain ⟨c, hs, hK, hcell⟩ := hc j p hj
  exact ⟨c, hs, hK, fun i u hu => by rw [hm ad ha hn]; exact hcell i u hu⟩
theorem cmp_lays {As : Nat → Option Addr} {Ls : Nat → List Int} {Cs : Nat → Nat} {w : World} {blk n : Nat} (h : Rows4 As Ls Cs w blk n) :
    CmpLays1 Tryd.prog 63 #[] (encR As Ls Cs) (cfR Ls) blk 0 (Array.range n).size w := by
  intro m os dk hs x y
  have hx := C_moved (w1 := sortWorld (encR As Ls Cs) w blk 0 m dk os) (h.reads x) (fun ad ha hp j => sw_cell _ (by rw [add_block]; exact (h.apart x ad ha).1) (by rw [add_block]; exact (h.apart x ad ha).2 hp))
  have hy := C_moved (w1 := sortWorld (encR As Ls Cs) w blk 0 m dk os) (h.reads y) (fun ad ha hp j => sw_cell _ (by rw [add_block]; exact (h.apart y ad ha).1) (by rw [add_block]; exact (h.apart y ad ha).2 hp))
  exact cmp_calls (As x) (Cs x) (Ls x) (As y) (Cs y) (Ls y) _ hx hy
def sortR (Ls : Nat → List Int) (n : Nat) : Array Nat := Sort.insertionSort (ltOf (cfR Ls)) (Array.range n) 0 n
theorem one_cellR (As : Nat → Option Addr) (Ls : Nat → List Int) (Cs : Nat → Nat) : OneCell (encR As Ls Cs) := fun _ => rfl
theorem ins_calls {As : Nat → Option Addr} {Ls : Nat → List Int} {Cs : Nat → Nat} {w : World} {blk n : Nat} (cap : Nat) (h : Rows4 As Ls Cs w blk n) (hn : n ≤ 4) :
    Calls Tryd.prog 91 #[.slice (some ⟨blk, 0, none⟩) n cap, .int .i64 0, .int .i64 (n : Int), .func (.func 63) #[] #[]] w fun e w' => e = .returned (.tuple #[]) ∧ SW (encR As Ls Cs) w blk 0 (sortR Ls n) w' := by
  have hs : (Array.range n).size = n := Array.size_range
  have := Any.insertionSortCmpFunc_s lays20 (encR As Ls Cs) (cfR Ls) 63 #[] blk 0 cap 0 n (Array.range n) (Array.range n) w w (enters_of Tryd.func63 (by kernel_rfl) rfl) (cmp_lays h) ⟨one_cellR As Ls Cs, h.holds, h.lt⟩ rfl (SW.start h.holds) (Nat.zero_le _) (by omega) (by omega)
  rw [hs] at this
  exact this
set_option maxHeartbeats 2000000 in
set_option maxRecDepth 100000 in
theorem pdq_calls {As : Nat → Option Addr} {Ls : Nat → List Int} {Cs : Nat → Nat} {w : World} {blk n : Nat} (cap : Nat) (lim : Int) (h : Rows4 As Ls Cs w blk n) (hn : n = 1 ∨ n = 2 ∨ n = 3 ∨ n = 4) :
    Calls Tryd.prog 81 #[.slice (some ⟨blk, 0, none⟩) n cap, .int .i64 0, .int .i64 (n : Int), .int .i64 lim, .func (.func 63) #[] #[]] w fun e w' => e = .returned (.tuple #[]) ∧ SW (encR As Ls Cs) w blk 0 (sortR Ls n) w' := by
  have hi := ins_calls cap h (by omega)
  have HI := Aside0.mk hi
  have h12 : decide ((n : Int) - 0 ≤ 12) = true := decide_eq_true (by omega)
  have h13 : decide ((n : Int) ≤ 12) = true := decide_eq_true (by omega)
  have hw : wrap64 ((n : Int) - 0) = (n : Int) := by unfold wrap64; omega
  have hw2 : wrap64 (n : Int) = (n : Int) := by unfold wrap64; omega
  have hw3 : IntKind.i64.wrap ((n : Int) - 0) = (n : Int) := by rw [i64_w, hw]
  have hw4 : IntKind.i64.wrap (n : Int) = (n : Int) := by rw [i64_w, hw2]
  clear hi h hn
  go_enter Tryd.func81, Tryd.ntmps81
  go_wp2
  refine wp_loop_rounds 1 ?_
  rw [rounds_succ]
  go_wp2_with fail
  refine HI.out.mono ?_
  rintro e w' ⟨rfl, hw'⟩
  have HW := Aside0.mk hw'
  clear hw'
  go_wp2_with fail
  (try simp only [Exit.inBlock, Exit.then])
  refine bodyPost_ret (results_none rfl _ _ _) rfl ?_
  exact ⟨rfl, HW.out⟩
set_option maxHeartbeats 2000000 in
set_option maxRecDepth 100000 in
theorem sortFunc_calls {As : Nat → Option Addr} {Ls : Nat → List Int} {Cs : Nat → Nat} {w : World} {blk n : Nat} (cap : Nat) (h : Rows4 As Ls Cs w blk n) (hn : n = 1 ∨ n = 2 ∨ n = 3 ∨ n = 4) :
    Calls Tryd.prog 62 #[.slice (some ⟨blk, 0, none⟩) n cap, .func (.func 63) #[] #[]] w fun e w' => e = .returned (.tuple #[]) ∧ SW (encR As Ls Cs) w blk 0 (sortR Ls n) w' := by
  have hp := fun lim => pdq_calls cap lim h hn
  have HP := Aside0.mk hp
  have hN : (n : Int) = 1 ∨ (n : Int) = 2 ∨ (n : Int) = 3 ∨ (n : Int) = 4 := by omega
  have HN := Aside0.mk hN
  have hu : IntKind.u64.wrap (n : Int) = (n : Int) := by rcases hN with h | h | h | h <;> rw [h] <;> decide
  clear hp h hn hN
  go_enter Tryd.func62, Tryd.ntmps62
  go_wp2_with fail
  refine (len_calls (n : Int) HN.out _).mono ?_
  rintro e w1 ⟨r, rfl, rfl⟩
  go_wp2_with fail
  refine (HP.out r).mono ?_
  rintro e w' ⟨rfl, hw'⟩
  have HW := Aside0.mk hw'
  clear hw'
  go_wp2_with fail
  go_end0
  exact ⟨rfl, HW.out⟩
end Go.Proofs.YtggpejjfgphihaaDoor.Given
end

section
namespace Go.Proofs.YtggpejjfgphihaaDoor.Given
open Go.RowKit Go.Proofs.YtggpejjfgphihaaDoorW.PrintWords Go.Proofs.YtggpejjfgphihaaDoorW.PrintLast Go.Proofs.YtggpejjfgphihaaDoorW.PrintMore
open Go.Proofs.YtggpejjfgphihaaDoor.H
set_option linter.unusedVariables false
set_option linter.unusedSimpArgs false
structure Pos (A : Nat → Option Addr) (L : Nat → List Int) (C : Nat → Nat) (W : World) (blk n : Nat) : Prop where
  cell : ∀ j, j < n → W.cell? ⟨blk, j, none⟩ = some (.slice (A j) (L j).length (C j))
  free : ∀ j, j < n → W.frozen? ⟨blk, j, none⟩ = false
  reads : ∀ j, Kd.C (Kd.int .u8) W (A j) (L j).length (L j)
  caps : ∀ j, (L j).length ≤ C j
  apart : ∀ j ad, A j = some ad → ad.block ≠ blk
theorem Pos.drawn {A : Nat → Option Addr} {L : Nat → List Int} {C : Nat → Nat} {W W1 : World} {blk n : Nat} (h : Pos A L C W blk n) (hd : Drawn0 W W1) : Pos A L C W1 blk n := by
  obtain ⟨⟨m, rfl⟩⟩ := hd
  exact ⟨h.cell, h.free, fun j => Kd.C_drewN (h.reads j) m, h.caps, h.apart⟩
theorem eq_true (l : List Int) : bytes_Equal.f l l = some true := by unfold bytes_Equal.f; simp
theorem eq_false {l0 l1 : List Int} (h : l0.length ≠ l1.length) : bytes_Equal.f l0 l1 = some false := by
  unfold bytes_Equal.f
  rw [Lib.strOfNums_toList, Lib.strOfNums_toList]
  congr 1
  rw [beq_eq_false_iff_ne]
  intro hh
  have := congrArg List.length hh
  unfold Lib.bytesOf at this
  simp at this
  exact h this
theorem eq_q {A : Nat → Option Addr} {L : Nat → List Int} {C : Nat → Nat} {W : World} {blk n : Nat} (h : Pos A L C W blk n) (i j : Nat) (r : Bool) (hr : bytes_Equal.f (L i) (L j) = some r) (q : Nat) :
    Calls Tryd.prog 67 #[.slice (A i) (L i).length (C i), .slice (A j) (L j).length (C j)] (W.drewN q) fun e w'' => e = .returned (.bool r) ∧ ∃ m, w'' = W.drewN m :=
  Calls.quiet_of ((bytes_Equal.calls (A i) (C i) (L i) (A j) (C j) (L j) r _ (Kd.C_drewN (h.reads i) q) (h.caps i) (Kd.C_drewN (h.reads j) q) (h.caps j) hr).mono fun e w' ⟨he, ⟨m, hm⟩⟩ => ⟨he, m, hm⟩)
structure Aft (W w' : World) (blk : Nat) : Prop where
  below : ∀ (B : Nat) (a : World), B ≤ blk → Below B a W → Below B a w'
  cell : ∀ x : Addr, x.block ≠ blk → w'.cell? x = W.cell? x
theorem Aft.refl (W : World) (blk : Nat) : Aft W W blk := ⟨fun _ _ _ h => h, fun _ _ => rfl⟩
theorem Aft.drawn {W w w' : World} {blk : Nat} (h : Aft W w blk) (hd : Drawn0 w w') : Aft W w' blk := by
  obtain ⟨⟨m, rfl⟩⟩ := hd
  exact ⟨fun B a hb hB => pw_below_drewN (h.below B a hb hB) m, fun x hx => h.cell x hx⟩
theorem Aft.set {W w : World} {blk : Nat} (h : Aft W w blk) (o : Nat) (v : Value) : Aft W (w.setCell ⟨blk, o, none⟩ v) blk :=
  ⟨fun B a hb hB => (h.below B a hb hB).setCell hb v, fun x hx => by rw [World.cell?_of_block (Below.heap_setCell _ _ _ _ hx)]; exact h.cell x hx⟩
theorem Aft.sets {W w : World} {blk : Nat} (h : Aft W w blk) (o : Nat) (vs : List Value) : Aft W (w.setCells blk o vs) blk :=
  ⟨fun B a hb hB => below_setCells hb vs o w (h.below B a hb hB), fun x hx => by rw [World.cell?_setCells_out blk vs o w x (fun e => absurd e hx)]; exact h.cell x hx⟩
theorem cut_at (blk n cap j : Nat) (h1 : j ≤ n) (h2 : j < cap) (W : World) : (Instr.slice 47 (.slice (some ⟨blk, 0, none⟩) n cap) (some (.int .i64 (j : Int))) none none).run Tryd.prog W = .ok (.slice (some ⟨blk, j, none⟩) (n - j) (cap - j)) W := by
  obtain ⟨i0, hi0, _, hsz, _⟩ := info_parts info35
  have := cut_from (P := Tryd.prog) 47 35 .i64 Tryd.underlying47 hi0 1 hsz (some ⟨blk, 0, none⟩) n cap (j : Int) (by omega) (by omega) W
  rw [Int.toNat_natCast, if_neg (by omega)] at this
  rw [this]
  simp [Option.map, Nat.mul_one, add_plain]
theorem clear_at (blk o n c : Nat) (hn : 0 < n) (W : World) (hc : ∀ j, j < n → (W.cell? ⟨blk, o + j, none⟩).isSome = true) (hf : ∀ j, j < n → W.frozen? ⟨blk, o + j, none⟩ = false) (ty : TypeId) :
    (Builtin.clear_ #[47] ty #[.slice (some ⟨blk, o, none⟩) n c]).run Tryd.prog W = .ok (.tuple #[]) (W.setCells blk o (List.replicate n (.slice none 0 0))) :=
  Lib.run_clear_slice W 47 35 ty (.slice none 0 0) Tryd.underlying47 (fun w => by kernel_rfl) rfl rfl blk o n c hn hc hf
theorem take_at (blk n cap j : Nat) (h1 : j ≤ n) (h2 : n ≤ cap) (W : World) : (Instr.slice 47 (.slice (some ⟨blk, 0, none⟩) n cap) none (some (.int .i64 (j : Int))) none).run Tryd.prog W = .ok (.slice (some ⟨blk, 0, none⟩) j cap) W := by
  obtain ⟨i0, hi0, _, hsz, _⟩ := info_parts info35
  have h := (print_take_of (P := Tryd.prog) (Value.int .u8) 0 47 35 .i64 Tryd.underlying47 hi0 hsz (some ⟨blk, 0, none⟩) cap (List.replicate n (0 : Int)) (j : Int) (by omega) (by rw [List.length_replicate]; omega) (by rw [List.length_replicate]; exact h2)).1 W
  rw [List.length_replicate, Int.toNat_natCast, List.length_take, List.length_replicate, Nat.min_eq_left h1] at h
  exact h
theorem Pos.clear {A : Nat → Option Addr} {L : Nat → List Int} {C : Nat → Nat} {W : World} {blk N : Nat} (h : Pos A L C W blk N) (o n c : Nat) (hn : 0 < n) (ho : o + n ≤ N) (ty : TypeId) :
    (Builtin.clear_ #[47] ty #[.slice (some ⟨blk, o, none⟩) n c]).run Tryd.prog W = .ok (.tuple #[]) (W.setCells blk o (List.replicate n (.slice none 0 0))) :=
  clear_at blk o n c hn W (fun j hj => by rw [h.cell (o + j) (by omega)]; rfl) (fun j hj => h.free (o + j) (by omega)) ty
set_option maxHeartbeats 4000000 in
set_option maxRecDepth 100000 in
theorem keep2 {A : Nat → Option Addr} {L : Nat → List Int} {C : Nat → Nat} {W : World} {blk : Nat} (cap : Nat) (h : Pos A L C W blk 2) (h1 : (L 1).length ≠ (L 0).length) :
    Calls Tryd.prog 66 #[.slice (some ⟨blk, 0, none⟩) 2 cap, .func (.func 67) #[] #[]] W fun e w' => e = .returned (.slice (some ⟨blk, 0, none⟩) 2 cap) ∧ Drawn0 W w' := by
  have H := Aside0.mk h
  have H1 := Aside0.mk h1
  clear h h1
  have e67 : ∀ args w, (callFunc 67 args).run Tryd.prog w = .ok (.enter 67 args) w := enters_of Tryd.func67 (by kernel_rfl) rfl
  go_enter Tryd.func66, Tryd.ntmps66
  go_wp2
  go_loopw [5] (fun v wr => (v = .int .i64 1 ∨ v = .int .i64 2) ∧ Aside0 (Drawn0 W wr)) (fun v _ => 2 - (intOf v).toNat)
  case atStart => exact ⟨Or.inl rfl, ⟨Drawn0.refl _⟩⟩
  case round =>
    obtain ⟨hv, HD⟩ := hrel
    have HP := Aside0.mk (H.out.drawn HD.out)
    rcases hv with rfl | rfl
    · have q0 := HP.out.cell 0 (by omega)
      have q1 := HP.out.cell 1 (by omega)
      have he := eq_q HP.out 1 0 false (eq_false H1.out)
      go_wp2
      go_quiet ((go_at_fn 67; exact he _))
      go_wp2
      exact ⟨⟨(Or.inr rfl), ⟨Drawn0.step HD.out _⟩⟩, by simp [intOf]⟩
    · go_wp2
      go_ret
      exact ⟨rfl, HD.out⟩
set_option maxHeartbeats 4000000 in
set_option maxRecDepth 100000 in
theorem keep4 {A : Nat → Option Addr} {L : Nat → List Int} {C : Nat → Nat} {W : World} {blk : Nat} (cap : Nat) (h : Pos A L C W blk 4) (h1 : (L 1).length ≠ (L 0).length) (h2 : (L 2).length ≠ (L 1).length) (h3 : (L 3).length ≠ (L 2).length) :
    Calls Tryd.prog 66 #[.slice (some ⟨blk, 0, none⟩) 4 cap, .func (.func 67) #[] #[]] W fun e w' => e = .returned (.slice (some ⟨blk, 0, none⟩) 4 cap) ∧ Drawn0 W w' := by
  have H := Aside0.mk h
  have H1 := Aside0.mk h1
  have H2 := Aside0.mk h2
  have H3 := Aside0.mk h3
  clear h h1 h2 h3
  have e67 : ∀ args w, (callFunc 67 args).run Tryd.prog w = .ok (.enter 67 args) w := enters_of Tryd.func67 (by kernel_rfl) rfl
  go_enter Tryd.func66, Tryd.ntmps66
  go_wp2
  go_loopw [5] (fun v wr => (v = .int .i64 1 ∨ v = .int .i64 2 ∨ v = .int .i64 3 ∨ v = .int .i64 4) ∧ Aside0 (Drawn0 W wr)) (fun v _ => 4 - (intOf v).toNat)
  case atStart => exact ⟨Or.inl rfl, ⟨Drawn0.refl _⟩⟩
  case round =>
    obtain ⟨hv, HD⟩ := hrel
    have HP := Aside0.mk (H.out.drawn HD.out)
    rcases hv with rfl | rfl | rfl | rfl
    · have q0 := HP.out.cell 0 (by omega)
      have q1 := HP.out.cell 1 (by omega)
      have he := eq_q HP.out 1 0 false (eq_false H1.out)
      go_wp2
      go_quiet ((go_at_fn 67; exact he _))
      go_wp2
      exact ⟨⟨(Or.inr (Or.inl rfl)), ⟨Drawn0.step HD.out _⟩⟩, by simp [intOf]⟩
    · have q0 := HP.out.cell 1 (by omega)
      have q1 := HP.out.cell 2 (by omega)
      have he := eq_q HP.out 2 1 false (eq_false H2.out)
      go_wp2
      go_quiet ((go_at_fn 67; exact he _))
      go_wp2
      exact ⟨⟨(Or.inr (Or.inr (Or.inl rfl))), ⟨Drawn0.step HD.out _⟩⟩, by simp [intOf]⟩
    · have q0 := HP.out.cell 2 (by omega)
      have q1 := HP.out.cell 3 (by omega)
      have he := eq_q HP.out 3 2 false (eq_false H3.out)
      go_wp2
      go_quiet ((go_at_fn 67; exact he _))
      go_wp2
      exact ⟨⟨(Or.inr (Or.inr (Or.inr rfl))), ⟨Drawn0.step HD.out _⟩⟩, by simp [intOf]⟩
    · go_wp2
      go_ret
      exact ⟨rfl, HD.out⟩
set_option maxHeartbeats 2000000 in
set_option maxRecDepth 100000 in
theorem keep1 {W : World} {blk : Nat} (cap : Nat) : Calls Tryd.prog 66 #[.slice (some ⟨blk, 0, none⟩) 1 cap, .func (.func 67) #[] #[]] W fun e w' => e = .returned (.slice (some ⟨blk, 0, none⟩) 1 cap) ∧ Drawn0 W w' := by
  go_enter Tryd.func66, Tryd.ntmps66
  go_wp2
  go_ret
  exact ⟨rfl, Drawn0.refl _⟩
set_option maxHeartbeats 4000000 in
set_option maxRecDepth 100000 in
theorem drop2 {A : Nat → Option Addr} {L : Nat → List Int} {C : Nat → Nat} {W : World} {blk : Nat} (cap : Nat) (hcap : 2 ≤ cap) (h : Pos A L C W blk 2) (h01 : L 1 = L 0) :
    Calls Tryd.prog 66 #[.slice (some ⟨blk, 0, none⟩) 2 cap, .func (.func 67) #[] #[]] W fun e w' => e = .returned (.slice (some ⟨blk, 0, none⟩) 1 cap) ∧ Aft W w' blk ∧ w'.cell? ⟨blk, 0, none⟩ = some (.slice (A 0) (L 0).length (C 0)) := by
  have H := Aside0.mk h
  have H01 := Aside0.mk h01
  have hcut : ∀ W', (Instr.slice 47 (.slice (some ⟨blk, 0, none⟩) 2 cap) (some (.int .i64 1)) none none).run Tryd.prog W' = .ok (.slice (some ⟨blk, 1, none⟩) 1 (cap - 1)) W' := fun W' => cut_at blk 2 cap 1 (by omega) (by omega) W'
  have htake : ∀ W', (Instr.slice 47 (.slice (some ⟨blk, 0, none⟩) 2 cap) none (some (.int .i64 1)) none).run Tryd.prog W' = .ok (.slice (some ⟨blk, 0, none⟩) 1 cap) W' := fun W' => take_at blk 2 cap 1 (by omega) hcap W'
  have HCAP := Aside0.mk hcap
  clear h h01 hcap
  have e67 : ∀ args w, (callFunc 67 args).run Tryd.prog w = .ok (.enter 67 args) w := enters_of Tryd.func67 (by kernel_rfl) rfl
  go_enter Tryd.func66, Tryd.ntmps66
  go_wp2
  refine wp_loop_rounds 1 ?_
  rw [rounds_succ]
  have q0 := H.out.cell 0 (by omega)
  have q1 := H.out.cell 1 (by omega)
  have he := eq_q H.out 1 0 true (by rw [H01.out]; exact eq_true _)
  go_wp2
  go_quiet ((go_at_fn 67; exact he _))
  go_wp2
  clear he q0 q1
  obtain ⟨W2, hW2⟩ : ∃ W2, W2 = W.drewN nq := ⟨_, rfl⟩
  have hd2 : Drawn0 W W2 := ⟨⟨_, hW2⟩⟩
  have H2 := Aside0.mk (H.out.drawn hd2)
  have A2 := Aside0.mk ((Aft.refl W blk).drawn hd2)
  rw [← hW2]
  clear hW2 hd2
  refine wp_loop_rounds 1 ?_
  rw [rounds_succ]
  have hclr := fun ty => H2.out.clear 1 1 (cap - 1) (by omega) (by omega) ty
  have HCLR := Aside0.mk (A2.out.sets 1 (List.replicate 1 (.slice none 0 0)))
  have q0 : (W2.setCells blk 1 (List.replicate 1 (.slice none 0 0))).cell? ⟨blk, 0, none⟩ = some (.slice (A 0) (L 0).length (C 0)) := by
    rw [World.cell?_setCells_out blk _ 1 W2 ⟨blk, 0, none⟩ (fun _ _ => Or.inl (show (0 : Nat) < 1 by decide))]; exact H2.out.cell 0 (by omega)
  have Q0 := Aside0.mk q0
  clear q0
  generalize W2.setCells blk 1 (List.replicate 1 (.slice none 0 0)) = W3 at hclr HCLR Q0
  go_wp2
  (try simp only [Exit.inBlock, Exit.then])
  go_ret
  exact ⟨rfl, HCLR.out, Q0.out⟩
end Go.Proofs.YtggpejjfgphihaaDoor.Given
end

section
namespace Go.Proofs.YtggpejjfgphihaaDoor.Given
open Go.RowKit Go.Proofs.YtggpejjfgphihaaDoorW.PrintWords Go.Proofs.YtggpejjfgphihaaDoorW.PrintLast Go.Proofs.YtggpejjfgphihaaDoorW.PrintMore
open Go.Proofs.YtggpejjfgphihaaDoor.H
set_option linter.unusedVariables false
set_option linter.unusedSimpArgs false
def sig (j : Nat) : Nat := if j = 1 then 2 else j
theorem Pos.set {A : Nat → Option Addr} {L : Nat → List Int} {C : Nat → Nat} {W : World} {blk : Nat} (h : Pos A L C W blk 4) :
    Pos (fun j => A (sig j)) (fun j => L (sig j)) (fun j => C (sig j)) (W.setCell ⟨blk, 1, none⟩ (.slice (A 2) (L 2).length (C 2))) blk 4 := by
  have hother : ∀ a : Addr, a.block ≠ blk → (W.setCell ⟨blk, 1, none⟩ (.slice (A 2) (L 2).length (C 2))).cell? a = W.cell? a := fun a ha => World.cell?_of_block (Below.heap_setCell _ _ _ _ ha)
  refine ⟨fun j hj => ?_, fun j hj => ?_, fun j => ?_, fun j => h.caps _, fun j ad ha => h.apart _ ad ha⟩
  · by_cases h1 : j = 1
    · subst h1
      have := h.cell 1 (by omega)
      have h2 : (W.setCell ⟨blk, 1, none⟩ (.slice (A 2) (L 2).length (C 2))).cell? ⟨blk, 1, none⟩ = some (.slice (A 2) (L 2).length (C 2)) := by apply World.cell?_setCell_same; exact this
      exact h2
    · have h2 : (W.setCell ⟨blk, 1, none⟩ (.slice (A 2) (L 2).length (C 2))).cell? ⟨blk, j, none⟩ = W.cell? ⟨blk, j, none⟩ := by
        apply World.cell?_setCell_other
        intro e
        injection e with _ e _
        exact h1 e.symm
      rw [h2]
      simp only [sig, h1, if_false]
      exact h.cell j hj
  · rw [World.frozen?_setCell]; exact h.free j hj
  · exact C_moved (h.reads _) (fun ad ha hp j => hother _ (by rw [add_block]; exact h.apart _ ad ha))
set_option maxHeartbeats 8000000 in
set_option maxRecDepth 100000 in
theorem drop4 {A : Nat → Option Addr} {L : Nat → List Int} {C : Nat → Nat} {W : World} {blk : Nat} (cap : Nat) (hcap : 4 ≤ cap) (h : Pos A L C W blk 4) (h01 : L 1 = L 0) (h12 : (L 2).length ≠ (L 1).length) (h23 : L 3 = L 2) :
    Calls Tryd.prog 66 #[.slice (some ⟨blk, 0, none⟩) 4 cap, .func (.func 67) #[] #[]] W fun e w' => e = .returned (.slice (some ⟨blk, 0, none⟩) 2 cap) ∧ Aft W w' blk ∧ w'.cell? ⟨blk, 0, none⟩ = some (.slice (A 0) (L 0).length (C 0)) ∧ w'.cell? ⟨blk, 1, none⟩ = some (.slice (A 2) (L 2).length (C 2)) := by
  have H := Aside0.mk h
  have H01 := Aside0.mk h01
  have H12 := Aside0.mk h12
  have H23 := Aside0.mk h23
  have hcut : ∀ W', (Instr.slice 47 (.slice (some ⟨blk, 0, none⟩) 4 cap) (some (.int .i64 1)) none none).run Tryd.prog W' = .ok (.slice (some ⟨blk, 1, none⟩) 3 (cap - 1)) W' := fun W' => cut_at blk 4 cap 1 (by omega) (by omega) W'
  have hcut2 : ∀ W', (Instr.slice 47 (.slice (some ⟨blk, 0, none⟩) 4 cap) (some (.int .i64 2)) none none).run Tryd.prog W' = .ok (.slice (some ⟨blk, 2, none⟩) 2 (cap - 2)) W' := fun W' => cut_at blk 4 cap 2 (by omega) (by omega) W'
  have htake : ∀ W', (Instr.slice 47 (.slice (some ⟨blk, 0, none⟩) 4 cap) none (some (.int .i64 2)) none).run Tryd.prog W' = .ok (.slice (some ⟨blk, 0, none⟩) 2 cap) W' := fun W' => take_at blk 4 cap 2 (by omega) hcap W'
  have HCAP := Aside0.mk hcap
  clear h h01 h12 h23 hcap
  have e67 : ∀ args w, (callFunc 67 args).run Tryd.prog w = .ok (.enter 67 args) w := enters_of Tryd.func67 (by kernel_rfl) rfl
  go_enter Tryd.func66, Tryd.ntmps66
  go_wp2
  refine wp_loop_rounds 1 ?_
  rw [rounds_succ]
  have q0 := H.out.cell 0 (by omega)
  have q1 := H.out.cell 1 (by omega)
  have he := eq_q H.out 1 0 true (by rw [H01.out]; exact eq_true _)
  go_wp2
  go_quiet ((go_at_fn 67; exact he _))
  go_wp2
  clear he q0 q1
  obtain ⟨W2, hW2⟩ : ∃ W2, W2 = W.drewN nq := ⟨_, rfl⟩
  have hd2 : Drawn0 W W2 := ⟨⟨_, hW2⟩⟩
  have H2 := Aside0.mk (H.out.drawn hd2)
  have A2 := Aside0.mk ((Aft.refl W blk).drawn hd2)
  rw [← hW2]
  clear hW2 hd2
  go_loopw [5, 7] (fun v5 v7 wr => (v5 = .int .i64 1 ∧ v7 = .int .i64 1 ∧ Aside0 (Pos A L C wr blk 4 ∧ Aft W wr blk)) ∨ (v5 = .int .i64 2 ∧ (v7 = .int .i64 2 ∨ v7 = .int .i64 3) ∧ Aside0 (Pos (fun j => A (sig j)) (fun j => L (sig j)) (fun j => C (sig j)) wr blk 4 ∧ Aft W wr blk))) (fun _ v _ => 3 - (intOf v).toNat)
  case atStart => exact Or.inl ⟨rfl, rfl, ⟨H2.out, A2.out⟩⟩
  case round =>
    clear A2 H2
    rcases hrel with ⟨rfl, rfl, HP⟩ | ⟨rfl, hv7, HP⟩
    · have q1 := HP.out.1.cell 1 (by omega)
      have q2 := HP.out.1.cell 2 (by omega)
      have f1 := HP.out.1.free 1 (by omega)
      have he := eq_q HP.out.1 2 1 false (eq_false H12.out)
      go_wp2
      go_quiet ((go_at_fn 67; exact he _))
      go_wp2
      exact ⟨Or.inr ⟨rfl, Or.inl rfl, ⟨(HP.out.1.drawn ⟨⟨nq, rfl⟩⟩).set, (HP.out.2.drawn ⟨⟨nq, rfl⟩⟩).set 1 _⟩⟩, by simp [intOf]⟩
    · rcases hv7 with rfl | rfl
      · have q2 := HP.out.1.cell 2 (by omega)
        have q3 := HP.out.1.cell 3 (by omega)
        have he := eq_q HP.out.1 3 2 true (by show bytes_Equal.f (L 3) (L 2) = some true; rw [H23.out]; exact eq_true _)
        simp only [sig] at q2 q3 he
        go_wp2
        go_quiet ((go_at_fn 67; exact he _))
        go_wp2
        exact ⟨Or.inr ⟨rfl, Or.inr rfl, ⟨HP.out.1.drawn ⟨⟨nq, rfl⟩⟩, HP.out.2.drawn ⟨⟨nq, rfl⟩⟩⟩⟩, by simp [intOf]⟩
      · have hclr := fun ty => HP.out.1.clear 2 2 (cap - 2) (by omega) (by omega) ty
        have HCLR := Aside0.mk (HP.out.2.sets 2 (List.replicate 2 (.slice none 0 0)))
        have q0 : (wr.setCells blk 2 (List.replicate 2 (.slice none 0 0))).cell? ⟨blk, 0, none⟩ = some (.slice (A 0) (L 0).length (C 0)) := by
          rw [World.cell?_setCells_out blk _ 2 wr ⟨blk, 0, none⟩ (fun _ _ => Or.inl (show (0 : Nat) < 2 by decide))]; exact HP.out.1.cell 0 (by omega)
        have q1 : (wr.setCells blk 2 (List.replicate 2 (.slice none 0 0))).cell? ⟨blk, 1, none⟩ = some (.slice (A 2) (L 2).length (C 2)) := by
          rw [World.cell?_setCells_out blk _ 2 wr ⟨blk, 1, none⟩ (fun _ _ => Or.inl (show (1 : Nat) < 2 by decide))]; exact HP.out.1.cell 1 (by omega)
        have Q0 := Aside0.mk q0
        have Q1 := Aside0.mk q1
        clear q0 q1
        generalize wr.setCells blk 2 (List.replicate 2 (.slice none 0 0)) = W3 at hclr HCLR Q0 Q1
        go_wp2
        (try simp only [Exit.inBlock, Exit.then])
        go_ret
        exact ⟨rfl, HCLR.out, Q0.out, Q1.out⟩
end Go.Proofs.YtggpejjfgphihaaDoor.Given
end

section
namespace Go.Proofs.YtggpejjfgphihaaDoor.Given
open Go.RowKit Go.Proofs.YtggpejjfgphihaaDoorW.PrintWords Go.Proofs.YtggpejjfgphihaaDoorW.PrintLast Go.Proofs.YtggpejjfgphihaaDoorW.PrintMore
open Go.Proofs.YtggpejjfgphihaaDoor.H Go.Proofs.YtggpejjfgphihaaDoor.Pu Go.Shelf Go.Lib Go.Sort
set_option linter.unusedVariables false
set_option linter.unusedSimpArgs false
def idx (n i : Nat) : Nat := if i < n then i else 0
def rowAt (rows : List (List Int)) (i : Nat) : List Int := rows.getD (idx rows.length i) []
theorem open_qk {W : World} {B : Nat} {v5 : Value} {rows : List (List Int)} (h : qk.R 35 W B (fun _ => True) v5 rows) (hn : 0 < rows.length) :
    ∃ g cap, v5 = .slice (some ⟨g, 0, none⟩) rows.length cap ∧ rows.length ≤ cap ∧ B ≤ g ∧ g < W.heap.size ∧ (∀ j, W.frozen? ⟨g, j, none⟩ = false) ∧
      ∀ i : Nat, ∃ p : Option Addr × Nat, W.cell? ⟨g, idx rows.length i, none⟩ = some (.slice p.1 (rowAt rows i).length p.2) ∧ (rowAt rows i).length ≤ p.2 ∧ Kd.C (Kd.int .u8) W p.1 (rowAt rows i).length (rowAt rows i) ∧ ∀ ad, p.1 = some ad → ad.block ≠ g ∧ ad.block < W.heap.size := by
  obtain ⟨A, cap, hv, hcap, _⟩ := Kd.R_reads h
  obtain ⟨_, inner, ho, hrep⟩ := h
  obtain ⟨hlen, ho⟩ := ho
  rcases ho with ⟨hnil, hxs⟩ | ⟨g, cap', cur, hv', hg, hh, hrest⟩
  · rw [hnil] at hv
    injection hv with _ h2 _
    omega
  · obtain ⟨hnc, hcm, hsz, htake⟩ := hrest
    have hsz1 : qk.sz = 1 := rfl
    rw [hsz1, Nat.mul_one] at hsz htake hlen
    refine ⟨g, cap', hv', hnc, hg, blk_lt hh, fun j => blk_frozen hh j, fun i => ?_⟩
    have hi : idx rows.length i < rows.length := by unfold idx; split <;> omega
    have hrow : rows[idx rows.length i]? = some (rowAt rows i) := by
      unfold rowAt
      rw [List.getD_eq_getElem?_getD, List.getElem?_eq_getElem hi]; rfl
    obtain ⟨u, hu, hq⟩ := hrep.2 _ _ hrow
    rw [hsz1, Nat.mul_one] at hu
    have hcell : W.cell? ⟨g, idx rows.length i, none⟩ = some u := by
      rw [blk_cell hh]
      have hil : idx rows.length i < inner.length := by omega
      have h1 : inner[idx rows.length i]? = some u := by
        have h2 := congrArg (fun l : List Value => l[0]?) hu
        simpa [List.getElem?_take, List.getElem?_drop] using h2
      rw [← htake, List.getElem?_take] at h1
      rw [if_pos hi] at h1
      rw [← Array.getElem?_toList]
      exact h1
    obtain ⟨A1, c1, rfl, hl1, hC1⟩ := Kd.Q_reads hq
    refine ⟨(A1, c1), hcell, hl1, hC1, fun ad had => ?_⟩
    subst had
    have hb := (Kd.Q_bound hq).1 ad.block rfl
    refine ⟨fun e => ?_, hb.2.2.1⟩
    have := hb.1.2
    rw [hv', e] at this
    exact this rfl
theorem grownBy_sortedR {W : World} {g n m : Nat} {os : Array Obj} {enc : Nat → Value} (dk : Array Nat) : W.grownBy (sortWorld enc W g 0 m dk os) (some g) := by
  refine ⟨rfl, rfl, rfl, by simp [sortWorld, size_putRow], fun k hk hne => ?_⟩
  unfold sortWorld
  rw [heap_grow_old _ _ (by rw [size_putRow]; exact hk)]
  have : g ≠ k := fun e => hne (by rw [e])
  simp [putRow, mapBlock, Sort.ahead, Array.getElem?_modify, this]
theorem sorted_calls {W : World} {B : Nat} {v5 : Value} {rows : List (List Int)} (h : qk.R 35 W B (fun _ => True) v5 rows) (hn : rows.length = 1 ∨ rows.length = 2 ∨ rows.length = 3 ∨ rows.length = 4) :
    ∃ g cap, v5 = .slice (some ⟨g, 0, none⟩) rows.length cap ∧ rows.length ≤ cap ∧ B ≤ g ∧ Calls Tryd.prog 62 #[v5, .func (.func 63) #[] #[]] W fun e W' => e = .returned (.tuple #[]) ∧ W.grownBy W' (some g) ∧
      ((sortR (rowAt rows) rows.length).size = rows.length → ∃ A C, Pos A (fun j => rowAt rows (sortR (rowAt rows) rows.length)[j]!) C W' g rows.length) := by
  obtain ⟨g, cap, hv, hcap, hB, hlt, hfr, hrows⟩ := open_qk h (by omega)
  obtain ⟨p, hp⟩ := Classical.axiomOfChoice hrows
  have hR4 : Rows4 (fun i => (p i).1) (rowAt rows) (fun i => (p i).2) W g rows.length := by
    refine ⟨fun i => (hp i).2.2.1, fun i ad had => ⟨((hp i).2.2.2 ad had).1, fun _ => ((hp i).2.2.2 ad had).2⟩, fun j hj => ?_, hlt⟩
    rw [Array.size_range] at hj
    have hj2 : (Array.range rows.length)[j]! = j := by simp [hj]
    have hid : idx rows.length j = j := by unfold idx; rw [if_pos hj]
    rw [hj2, Nat.zero_add]
    refine ⟨?_, hfr j⟩
    have := (hp j).1
    rw [hid] at this
    exact this
  refine ⟨g, cap, hv, hcap, hB, ?_⟩
  rw [hv]
  refine (sortFunc_calls cap hR4 hn).mono fun e W' ⟨he, hS⟩ => ⟨he, ?_, fun hsz => ?_⟩
  · obtain ⟨m, os, rfl⟩ := hS
    exact grownBy_sortedR (n := 0) _
  · have R : Row1 (encR (fun i => (p i).1) (rowAt rows) (fun i => (p i).2)) W g 0 (Array.range rows.length) := ⟨one_cellR _ _ _, hR4.holds, hlt⟩
    have hs : (sortR (rowAt rows) rows.length).size = (Array.range rows.length).size := by rw [hsz, Array.size_range]
    refine ⟨fun j => (p (sortR (rowAt rows) rows.length)[j]!).1, fun j => (p (sortR (rowAt rows) rows.length)[j]!).2, fun j hj => ?_, fun j hj => ?_, fun j => ?_, fun j => (hp _).2.1, fun j ad had => ((hp _).2.2.2 ad had).1⟩
    · have := SW.c1 hS R hs j (by omega)
      rw [Nat.zero_add] at this
      exact this
    · have := SW.f1 hS R hs j (by omega)
      rw [Nat.zero_add] at this
      exact this
    · obtain ⟨m, os, rfl⟩ := hS
      exact C_moved ((hp _).2.2.1) (fun ad had hp0 i => sw_cell _ (by rw [add_block]; exact ((hp _).2.2.2 ad had).1) (by rw [add_block]; exact ((hp _).2.2.2 ad had).2))
theorem lt_len (L : Nat → List Int) (hb : ∀ i, (L i).length < 1000) (hL : ∀ i j, (L i).length = (L j).length → L i = L j) : ltOf (cfR L) = fun i j => decide ((L i).length < (L j).length) := by
  funext i j
  unfold ltOf cfR cmpV orV
  have h1 := hb i
  have h2 := hb j
  have hw : wrap64 (((L i).length : Int) - ((L j).length : Int)) = ((L i).length : Int) - ((L j).length : Int) := by unfold wrap64; omega
  rw [hw]
  by_cases h : (L i).length = (L j).length
  · rw [if_pos (by omega), hL i j h, cb_self]; simp
  · rw [if_neg (by omega)]
    rw [Bool.eq_iff_iff]; simp; omega
theorem pos_C {A : Nat → Option Addr} {L : Nat → List Int} {C : Nat → Nat} {W : World} {g m : Nat} (hc : ∀ j, j < m → W.cell? ⟨g, j, none⟩ = some (.slice (A j) (L j).length (C j))) (hr : ∀ j, Kd.C (Kd.int .u8) W (A j) (L j).length (L j)) (hk : ∀ j, (L j).length ≤ C j) (hm : m ≤ 100) (res : List (List Int)) (hres : res = (List.range m).map L) :
    Kd.C (Kd.slice 5 (Kd.int .u8)) W (some ⟨g, 0, none⟩) res.length res := by
  subst hres
  have hlen : ((List.range m).map L).length = m := by simp
  refine ⟨rfl, by rw [hlen]; omega, fun _ => ⟨_, rfl, fun j p hj => ?_⟩⟩
  have hjm : j < m := by
    have := (List.getElem?_eq_some_iff.1 hj).1
    rw [hlen] at this; exact this
  have hp : L j = p := by simpa [hjm] using hj
  subst hp
  refine ⟨[.slice (A j) (L j).length (C j)], rfl, ⟨A j, C j, rfl, hk j, hr j⟩, fun i u hu => ?_⟩
  match i, hu with
  | 0, hu =>
    rw [add_plain]
    have := hc j hjm
    rw [show j * (Kd.slice 5 (Kd.int .u8)).sz + 0 = j from Nat.mul_one j, this]
    exact hu
  | i + 1, hu => exact absurd hu (by simp)
def PostAll (res : List (List Int)) (w : World) (e : Ending) (W2 : World) : Prop := ∃ (A : Option Addr) (c : Nat), e = .returned (.slice A res.length c) ∧ res.length ≤ c ∧ Kd.C (Kd.slice 5 (Kd.int .u8)) W2 A res.length res ∧ Below w.heap.size w W2
theorem eval2 : insertionSort (fun i j => decide ([4, 3].getD (idx 2 i) 0 < [4, 3].getD (idx 2 j) 0)) (Array.range 2) 0 2 = #[1, 0] := by decide +kernel
theorem eval4 : insertionSort (fun i j => decide ([2, 1, 4, 3].getD (idx 4 i) 0 < [2, 1, 4, 3].getD (idx 4 j) 0)) (Array.range 4) 0 4 = #[1, 0, 3, 2] := by decide +kernel
theorem eval6 : insertionSort (fun i j => decide ([2, 2, 4, 4].getD (idx 4 i) 0 < [2, 2, 4, 4].getD (idx 4 j) 0)) (Array.range 4) 0 4 = #[0, 1, 2, 3] := by decide +kernel
def Comp (rows res : List (List Int)) (dk : Array Nat) (g n cap : Nat) (A : Nat → Option Addr) (C : Nat → Nat) (W' : World) (e : Ending) (W2 : World) : Prop :=
  e = .returned (.slice (some ⟨g, 0, none⟩) res.length cap) ∧ res.length ≤ n ∧ Aft W' W2 g ∧ ∃ τ : Nat → Nat, (∀ j, j < res.length → W2.cell? ⟨g, j, none⟩ = some (.slice (A (τ j)) (rowAt rows dk[τ j]!).length (C (τ j)))) ∧ res = (List.range res.length).map (fun j => rowAt rows dk[τ j]!)
def Goal62 (res : List (List Int)) (w W : World) (v5 : Value) : Prop :=
  Calls Tryd.prog 62 #[v5, .func (.func 63) #[] #[]] W fun e W' => e = .returned (.tuple #[]) ∧ Calls Tryd.prog 66 #[v5, .func (.func 67) #[] #[]] W' fun e W2 => ∃ r, e = .returned r ∧ PostAll res w e W2
theorem fin_all (rows res : List (List Int)) (dk : Array Nat) (hn : rows.length = 1 ∨ rows.length = 2 ∨ rows.length = 3 ∨ rows.length = 4) (hdk : sortR (rowAt rows) rows.length = dk) (hsz : dk.size = rows.length)
    (hcomp : ∀ (W' : World) (g cap : Nat) (A : Nat → Option Addr) (C : Nat → Nat), rows.length ≤ cap → Pos A (fun j => rowAt rows dk[j]!) C W' g rows.length → Calls Tryd.prog 66 #[.slice (some ⟨g, 0, none⟩) rows.length cap, .func (.func 67) #[] #[]] W' (Comp rows res dk g rows.length cap A C W'))
    {w W : World} {v5 : Value} (HB : Below w.heap.size w W) (HR : qk.R 35 W w.heap.size (fun _ => True) v5 rows) : Goal62 res w W v5 := by
  obtain ⟨g, cap, hv, hcap, hg, hc⟩ := sorted_calls HR hn
  refine hc.mono fun e W' ⟨he, hgr, hpos⟩ => ⟨he, ?_⟩
  rw [hdk] at hpos
  obtain ⟨A, C, hP⟩ := hpos hsz
  have hB' : Below w.heap.size w W' := HB.grown hgr HB.size (fun k hk => by cases hk; exact hg)
  rw [hv]
  refine (hcomp W' g cap A C hcap hP).mono fun e2 W2 ⟨he2, hle, haft, τ, hcell, hres⟩ => ⟨_, he2, some ⟨g, 0, none⟩, cap, he2, by omega, ?_, haft.below _ _ hg hB'⟩
  refine pos_C (A := fun j => A (τ j)) (L := fun j => rowAt rows dk[τ j]!) (C := fun j => C (τ j)) hcell (fun j => ?_) (fun j => hP.caps _) (by omega) res hres
  exact C_moved (hP.reads (τ j)) (fun ad had hp i => haft.cell _ (by rw [add_block]; exact hP.apart _ ad had))
theorem keep_comp {rows res : List (List Int)} {dk : Array Nat} {g n cap : Nat} {A : Nat → Option Addr} {C : Nat → Nat} {W' : World} (hres : res.length = n) (hr2 : res = (List.range n).map (fun j => rowAt rows dk[j]!)) (hP : Pos A (fun j => rowAt rows dk[j]!) C W' g n)
    (h : Calls Tryd.prog 66 #[.slice (some ⟨g, 0, none⟩) n cap, .func (.func 67) #[] #[]] W' fun e w' => e = .returned (.slice (some ⟨g, 0, none⟩) n cap) ∧ Drawn0 W' w') :
    Calls Tryd.prog 66 #[.slice (some ⟨g, 0, none⟩) n cap, .func (.func 67) #[] #[]] W' (Comp rows res dk g n cap A C W') :=
  h.mono fun e W2 ⟨he, hd⟩ => ⟨by rw [hres]; exact he, by omega, (Aft.refl W' g).drawn hd, fun j => j, fun j hj => (hP.drawn hd).cell j (by omega), by rw [hres]; exact hr2⟩
theorem sortR_eq (rows : List (List Int)) (ls : List Nat) (hls : ∀ k, k < rows.length → (rows.getD k []).length = ls.getD k 0) (hpos : 0 < rows.length) (hb : ∀ k, ls.getD k 0 < 1000) (hsame : ∀ k l, k < rows.length → l < rows.length → (rows.getD k []).length = (rows.getD l []).length → rows.getD k [] = rows.getD l []) :
    sortR (rowAt rows) rows.length = insertionSort (fun i j => decide (ls.getD (idx rows.length i) 0 < ls.getD (idx rows.length j) 0)) (Array.range rows.length) 0 rows.length := by
  have hi : ∀ i, idx rows.length i < rows.length := fun i => by unfold idx; split <;> omega
  have hlen : ∀ i, (rowAt rows i).length = ls.getD (idx rows.length i) 0 := fun i => hls _ (hi i)
  unfold sortR
  rw [lt_len (rowAt rows) (fun i => by rw [hlen]; exact hb _) (fun i j h => hsame _ _ (hi i) (hi j) h)]
  congr 1
  funext i j
  rw [hlen, hlen]
theorem shape1 (r : List Int) (hr : r.length = 4) {w W : World} {v5 : Value} (HB : Below w.heap.size w W) (HR : qk.R 35 W w.heap.size (fun _ => True) v5 [r]) : Goal62 [r] w W v5 := by
  have e1 : insertionSort (fun i j => decide ([4].getD (idx 1 i) 0 < [4].getD (idx 1 j) 0)) (Array.range 1) 0 1 = #[0] := by decide +kernel
  have hs := sortR_eq [r] [4] (fun k hk => by obtain rfl : k = 0 := by simpa using hk
                                              simpa using hr) (by simp) (fun k => by match k with | 0 => simp | k + 1 => simp) (fun k l hk hl _ => by
    obtain rfl : k = 0 := by simpa using hk
    obtain rfl : l = 0 := by simpa using hl
    rfl)
  refine fin_all [r] [r] #[0] (Or.inl rfl) (hs.trans e1) rfl (fun W' g cap A C hcap hP => ?_) HB HR
  exact keep_comp rfl rfl hP (keep1 cap)
theorem two_cases {k : Nat} (h : k < 2) : k = 0 ∨ k = 1 := by omega
theorem four_cases {k : Nat} (h : k < 4) : k = 0 ∨ k = 1 ∨ k = 2 ∨ k = 3 := by omega
theorem small2 (a b : Nat) (ha : a < 1000) (hb : b < 1000) : ∀ k, [a, b].getD k 0 < 1000 := fun k => by match k with | 0 => simpa using ha | 1 => simpa using hb | k + 2 => simp
theorem small4 (a b c d : Nat) (ha : a < 1000) (hb : b < 1000) (hc : c < 1000) (hd : d < 1000) : ∀ k, [a, b, c, d].getD k 0 < 1000 := fun k => by match k with | 0 => simpa using ha | 1 => simpa using hb | 2 => simpa using hc | 3 => simpa using hd | k + 4 => simp
theorem shape2 (x4 x3 : List Int) (h4 : x4.length = 4) (h3 : x3.length = 3) {w W : World} {v5 : Value} (HB : Below w.heap.size w W) (HR : qk.R 35 W w.heap.size (fun _ => True) v5 [x4, x3]) : Goal62 [x3, x4] w W v5 := by
  have hs := sortR_eq [x4, x3] [4, 3] (fun k hk => by rcases two_cases hk with rfl | rfl <;> simp [h4, h3]) (by simp) (small2 4 3 (by decide) (by decide)) (fun k l hk hl h => by
    rcases two_cases hk with rfl | rfl <;> rcases two_cases hl with rfl | rfl <;> simp [h4, h3] at h ⊢)
  refine fin_all [x4, x3] [x3, x4] #[1, 0] (Or.inr (Or.inl rfl)) (hs.trans eval2) rfl (fun W' g cap A C hcap hP => ?_) HB HR
  exact keep_comp rfl rfl hP (keep2 cap hP (by show x4.length ≠ x3.length; omega))
theorem shape4 (y x : List Int) (h2 : y.length = 2) (h4 : x.length = 4) {w W : World} {v5 : Value} (HB : Below w.heap.size w W) (HR : qk.R 35 W w.heap.size (fun _ => True) v5 [y, x]) : Goal62 [y, x] w W v5 := by
  have e4 : insertionSort (fun i j => decide ([2, 4].getD (idx 2 i) 0 < [2, 4].getD (idx 2 j) 0)) (Array.range 2) 0 2 = #[0, 1] := by decide +kernel
  have hs := sortR_eq [y, x] [2, 4] (fun k hk => by rcases two_cases hk with rfl | rfl <;> simp [h4, h2]) (by simp) (small2 2 4 (by decide) (by decide)) (fun k l hk hl h => by
    rcases two_cases hk with rfl | rfl <;> rcases two_cases hl with rfl | rfl <;> simp [h4, h2] at h ⊢)
  refine fin_all [y, x] [y, x] #[0, 1] (Or.inr (Or.inl rfl)) (hs.trans e4) rfl (fun W' g cap A C hcap hP => ?_) HB HR
  exact keep_comp rfl rfl hP (keep2 cap hP (by show x.length ≠ y.length; omega))
theorem shape3 (x : List Int) (h4 : x.length = 4) {w W : World} {v5 : Value} (HB : Below w.heap.size w W) (HR : qk.R 35 W w.heap.size (fun _ => True) v5 [x, x]) : Goal62 [x] w W v5 := by
  have e4 : insertionSort (fun i j => decide ([4, 4].getD (idx 2 i) 0 < [4, 4].getD (idx 2 j) 0)) (Array.range 2) 0 2 = #[0, 1] := by decide +kernel
  have hs := sortR_eq [x, x] [4, 4] (fun k hk => by rcases two_cases hk with rfl | rfl <;> simp [h4]) (by simp) (small2 4 4 (by decide) (by decide)) (fun k l hk hl h => by
    rcases two_cases hk with rfl | rfl <;> rcases two_cases hl with rfl | rfl <;> rfl)
  refine fin_all [x, x] [x] #[0, 1] (Or.inr (Or.inl rfl)) (hs.trans e4) rfl (fun W' g cap A C hcap hP => ?_) HB HR
  exact (drop2 cap hcap hP rfl).mono fun e W2 ⟨he, ha, hc⟩ => ⟨he, by simp, ha, fun j => j, fun j hj => by obtain rfl : j = 0 := by simpa using hj
                                                                                                           exact hc, rfl⟩
theorem shape5 (y2 y1 x4 x3 : List Int) (h2 : y2.length = 2) (h1 : y1.length = 1) (h4 : x4.length = 4) (h3 : x3.length = 3) {w W : World} {v5 : Value} (HB : Below w.heap.size w W) (HR : qk.R 35 W w.heap.size (fun _ => True) v5 [y2, y1, x4, x3]) : Goal62 [y1, y2, x3, x4] w W v5 := by
  have hs := sortR_eq [y2, y1, x4, x3] [2, 1, 4, 3] (fun k hk => by rcases four_cases hk with rfl | rfl | rfl | rfl <;> simp [h1, h2, h3, h4]) (by simp) (small4 2 1 4 3 (by decide) (by decide) (by decide) (by decide)) (fun k l hk hl h => by
    rcases four_cases hk with rfl | rfl | rfl | rfl <;> rcases four_cases hl with rfl | rfl | rfl | rfl <;> simp [h1, h2, h3, h4] at h ⊢)
  refine fin_all [y2, y1, x4, x3] [y1, y2, x3, x4] #[1, 0, 3, 2] (Or.inr (Or.inr (Or.inr rfl))) (hs.trans eval4) rfl (fun W' g cap A C hcap hP => ?_) HB HR
  exact keep_comp rfl rfl hP (keep4 cap hP (by show y2.length ≠ y1.length; omega) (by show x3.length ≠ y2.length; omega) (by show x4.length ≠ x3.length; omega))
theorem shape6 (y x : List Int) (h2 : y.length = 2) (h4 : x.length = 4) {w W : World} {v5 : Value} (HB : Below w.heap.size w W) (HR : qk.R 35 W w.heap.size (fun _ => True) v5 [y, y, x, x]) : Goal62 [y, x] w W v5 := by
  have hs := sortR_eq [y, y, x, x] [2, 2, 4, 4] (fun k hk => by rcases four_cases hk with rfl | rfl | rfl | rfl <;> simp [h2, h4]) (by simp) (small4 2 2 4 4 (by decide) (by decide) (by decide) (by decide)) (fun k l hk hl h => by
    rcases four_cases hk with rfl | rfl | rfl | rfl <;> rcases four_cases hl with rfl | rfl | rfl | rfl <;> first | rfl | (simp [h2, h4] at h))
  refine fin_all [y, y, x, x] [y, x] #[0, 1, 2, 3] (Or.inr (Or.inr (Or.inr rfl))) (hs.trans eval6) rfl (fun W' g cap A C hcap hP => ?_) HB HR
  exact (drop4 cap hcap hP rfl (by show x.length ≠ y.length; omega) rfl).mono fun e W2 ⟨he, ha, hc0, hc1⟩ => ⟨he, by simp, ha, fun j => if j = 1 then 2 else j, fun j hj => by
    rcases two_cases (show j < 2 by simpa using hj) with rfl | rfl
    · exact hc0
    · exact hc1, rfl⟩
end Go.Proofs.YtggpejjfgphihaaDoor.Given
end

section
namespace Go.Proofs.YtggpejjfgphihaaDoor.Given
open Go.RowKit Go.Proofs.YtggpejjfgphihaaDoorW.PrintWords
open Go.Proofs.YtggpejjfgphihaaDoor.Pu
set_option linter.unusedVariables false
set_option linter.unusedSimpArgs false
def allN (a f : Bool) (P : Nat) : List (List Nat) := (if (a && (f && decide (P < 256))) = true then [numN P true] else []) ++ ((if a = true then [numN P false] else []) ++ ((if (f && decide (P < 256)) = true then [255 :: 3 :: numN P true] else []) ++ [255 :: 3 :: numN P false]))
theorem cand_big (ad : Bool) (P : Nat) (h : ¬ P < 256) : cand ad true P = cand ad false P := by simp [cand, numN, h]
theorem all_calls (a0 a1 a f : Bool) (a4 a5 a6 : Int) (P : Nat) (hP : P < 65536) (hr : right P = true) (w : World) (hgH : GH w) :
    Calls Tryd.prog 35 #[.agg #[.bool a0, .bool a1, .bool a, .bool f, .int .u32 a4, .int .u32 a5, .int .i64 a6], .int .u16 (P : Int)] w (PostAll ((allN a f P).map ofN) w) := by
  refine all_walk a0 a1 a f a4 a5 a6 P hP hr w hgH (fun w e W2 => PostAll ((allN a f P).map ofN) w e W2) (fun W v5 HB HR => ?_)
  show Goal62 ((allN a f P).map ofN) w W v5
  have l40 : (ofN (cand true false P)).length = 4 := by rw [ofN_length]; simp [cand, numN]
  have l20 : (ofN (cand false false P)).length = 2 := by rw [ofN_length]; simp [cand, numN]
  have c40 : (255 :: 3 :: numN P false) = cand true false P := rfl
  have c20 : numN P false = cand false false P := rfl
  have c41 : (255 :: 3 :: numN P true) = cand true true P := rfl
  have c21 : numN P true = cand false true P := rfl
  by_cases h : P < 256
  · have l31 : (ofN (cand true true P)).length = 3 := by rw [ofN_length]; simp [cand, numN, h]
    have l11 : (ofN (cand false true P)).length = 1 := by rw [ofN_length]; simp [cand, numN, h]
    cases a <;> cases f
    · have e : rowsAt false false P 4 = [ofN (cand true false P)] := by simp [rowsAt, stepR, gd, h]
      have r : (allN false false P).map ofN = [ofN (cand true false P)] := by simp [allN, c40]
      rw [e] at HR; rw [r]; exact shape1 _ l40 HB HR
    · have e : rowsAt false true P 4 = [ofN (cand true false P), ofN (cand true true P)] := by simp [rowsAt, stepR, gd, h]
      have r : (allN false true P).map ofN = [ofN (cand true true P), ofN (cand true false P)] := by simp [allN, c40, c41, h]
      rw [e] at HR; rw [r]; exact shape2 _ _ l40 l31 HB HR
    · have e : rowsAt true false P 4 = [ofN (cand false false P), ofN (cand true false P)] := by simp [rowsAt, stepR, gd, h]
      have r : (allN true false P).map ofN = [ofN (cand false false P), ofN (cand true false P)] := by unfold allN; rw [c40, c20]; simp
      rw [e] at HR; rw [r]; exact shape4 _ _ l20 l40 HB HR
    · have e : rowsAt true true P 4 = [ofN (cand false false P), ofN (cand false true P), ofN (cand true false P), ofN (cand true true P)] := by simp [rowsAt, stepR, gd, h]
      have r : (allN true true P).map ofN = [ofN (cand false true P), ofN (cand false false P), ofN (cand true true P), ofN (cand true false P)] := by unfold allN; rw [c40, c41, c20, c21]; simp [h]
      rw [e] at HR; rw [r]; exact shape5 _ _ _ _ l20 l11 l40 l31 HB HR
  · have hc := cand_big true P h
    have hc2 := cand_big false P h
    cases a
    · have e : rowsAt false f P 4 = [ofN (cand true false P), ofN (cand true false P)] := by simp [rowsAt, stepR, gd, h, hc]
      have r : (allN false f P).map ofN = [ofN (cand true false P)] := by simp [allN, c40, h]
      rw [e] at HR; rw [r]; exact shape3 _ l40 HB HR
    · have e : rowsAt true f P 4 = [ofN (cand false false P), ofN (cand false false P), ofN (cand true false P), ofN (cand true false P)] := by simp [rowsAt, stepR, gd, h, hc, hc2]
      have r : (allN true f P).map ofN = [ofN (cand false false P), ofN (cand true false P)] := by unfold allN; rw [c40, c20]; simp [h]
      rw [e] at HR; rw [r]; exact shape6 _ _ l20 l40 HB HR
end Go.Proofs.YtggpejjfgphihaaDoor.Given
end

section
namespace Go.Proofs.YtggpejjfgphihaaDoor.H
open Go.Proofs.YtggpejjfgphihaaDoor.Given Go.Proofs.YtggpejjfgphihaaDoor.D Go.RowKit Go.Proofs.YtggpejjfgphihaaDoorW.PrintWords Go.Proofs.YtggpejjfgphihaaDoorW.PrintLast Go.Proofs.YtggpejjfgphihaaDoorW.PrintMore
attribute [local go_sem] max2_int min2_int max_two min_two max_three min_three max_four min_four
set_option linter.unusedVariables false
set_option linter.unusedSimpArgs false
mutual
def marlineref10_All.j0 : Nat → Int → List (List Int) → Bool → Bool → Bool → Bool → Bool → Int → Int → Int → Option ((List (List Int)))
  | 0, _, _, _, _, _, _, _, _, _, _ => none
  | k + 1, x1, x5, x6, x218000, x218001, x218002, x218003, x218004, x218005, x218006 => if x218002 = true then (marlineref10_All.j1 k x1 x5 x6 x6 x218000 x218001 x218002 x218003 x218004 x218005 x218006) else (marlineref10_All.j1 k x1 x5 x6 false x218000 x218001 x218002 x218003 x218004 x218005 x218006)
def marlineref10_All.j1 : Nat → Int → List (List Int) → Bool → Bool → Bool → Bool → Bool → Bool → Int → Int → Int → Option ((List (List Int)))
  | 0, _, _, _, _, _, _, _, _, _, _, _ => none
  | k + 1, x1, x5, x6, x18, x218000, x218001, x218002, x218003, x218004, x218005, x218006 => if x18 = true then ((marlineref09_Put.f x1 true).bind fun t221 => (if x5.length < 5864062014805 then (marlineref10_All.j2 k x1 (x5 ++ [t221]) x6 x218000 x218001 x218002 x218003 x218004 x218005 x218006) else (none))) else (marlineref10_All.j2 k x1 x5 x6 x218000 x218001 x218002 x218003 x218004 x218005 x218006)
def marlineref10_All.j2 : Nat → Int → List (List Int) → Bool → Bool → Bool → Bool → Bool → Int → Int → Int → Option ((List (List Int)))
  | 0, _, _, _, _, _, _, _, _, _, _ => none
  | k + 1, x1, x5, x6, x218000, x218001, x218002, x218003, x218004, x218005, x218006 => if x218002 = true then ((marlineref09_Put.f x1 false).bind fun t227 => (if x5.length < 5864062014805 then (marlineref10_All.j3 k x1 (x5 ++ [t227]) x6) else (none))) else (marlineref10_All.j3 k x1 x5 x6)
def marlineref10_All.j3 : Nat → Int → List (List Int) → Bool → Option ((List (List Int)))
  | 0, _, _, _ => none
  | k + 1, x1, x5, x6 => if x6 = true then ((some (([255, 3] : List Int) : List Int)).bind fun y233 => ((marlineref09_Put.f x1 true).bind fun t236 => (if y233.length + t236.length < 140737488355328 then (if x5.length < 5864062014805 then ((some (x5 ++ [(y233 ++ t236)] : List (List Int))).bind fun y242 => ((some (([255, 3] : List Int) : List Int)).bind fun y245 => ((marlineref09_Put.f x1 false).bind fun t248 => (if y245.length + t248.length < 140737488355328 then (if y242.length < 5864062014805 then (some (y242 ++ [(y245 ++ t248)])) else (none)) else (none))))) else (none)) else (none)))) else ((some (([255, 3] : List Int) : List Int)).bind fun y257 => ((marlineref09_Put.f x1 false).bind fun t260 => (if y257.length + t260.length < 140737488355328 then (if x5.length < 5864062014805 then (some (x5 ++ [(y257 ++ t260)])) else (none)) else (none))))
end
def marlineref10_All.f (k : Nat) (a0_0 : Bool) (a0_1 : Bool) (a0_2 : Bool) (a0_3 : Bool) (a0_4 : Int) (a0_5 : Int) (a0_6 : Int) (a1 : Int) : Option ((List (List Int))) := (some (([] : List (List Int)) : List (List Int))).bind fun y218 => (if a0_3 = true then (marlineref10_All.j0 k a1 y218 (decide (a1 < 256)) a0_0 a0_1 a0_2 a0_3 a0_4 a0_5 a0_6) else (marlineref10_All.j0 k a1 y218 false a0_0 a0_1 a0_2 a0_3 a0_4 a0_5 a0_6))
set_option maxHeartbeats 8000000 in
set_option maxRecDepth 100000 in
theorem marlineref10_All.calls (k : Nat) (a0_0 : Bool) (a0_1 : Bool) (a0_2 : Bool) (a0_3 : Bool) (a0_4 : Int) (a0_5 : Int) (a0_6 : Int) (a1 : Int) (r : List (List Int)) (w : World) (h : marlineref10_All.f k a0_0 a0_1 a0_2 a0_3 a0_4 a0_5 a0_6 a1 = some r) :
    Calls Tryd.prog 36 #[.agg #[.bool a0_0, .bool a0_1, .bool a0_2, .bool a0_3, .int .u32 a0_4, .int .u32 a0_5, .int .i64 a0_6], .int .i64 a1] w fun e w' => ∃ v0_ : Value, e = .returned (v0_) ∧ Kd.S (Kd.slice 5 (Kd.int .u8)) 35 w' w.heap.size (fun _ => True) v0_ r ∧ Below w.heap.size w w' := by
  have hu24 := Tryd.underlying24
  have HB := Aside0.mk (Below.refl w.heap.size w)
  have H : ((some (([] : List (List Int)) : List (List Int))).bind fun y218 => (if a0_3 = true then (marlineref10_All.j0 k a1 y218 (decide (a1 < 256)) a0_0 a0_1 a0_2 a0_3 a0_4 a0_5 a0_6) else (marlineref10_All.j0 k a1 y218 false a0_0 a0_1 a0_2 a0_3 a0_4 a0_5 a0_6))) = some r := h
  clear h
  obtain ⟨y218, hy218⟩ : ∃ y_ : List (List Int), y_ = (([] : List (List Int))) := ⟨_, rfl⟩
  replace H : (if a0_3 = true then (marlineref10_All.j0 k a1 y218 (decide (a1 < 256)) a0_0 a0_1 a0_2 a0_3 a0_4 a0_5 a0_6) else (marlineref10_All.j0 k a1 y218 false a0_0 a0_1 a0_2 a0_3 a0_4 a0_5 a0_6)) = some r := by first | (rw [hy218]; with_reducible exact H) | (have H2_ := (Option.bind_some _ _).symm.trans H; rw [hy218]; with_reducible exact H2_) | (have H2_ := (Option.bind_some _ _).symm.trans H; with_reducible exact H2_) | with_reducible exact H | (rw [hy218]; exact H) | exact H
  have Ny218 := Aside0.mk hy218
  clear hy218
  have HC3 := Aside0.mk H
  clear H
  go_enter Tryd.func36, Tryd.ntmps36
  go_upto_region 2 with (first | ((with_reducible refine gate_dst (N := 2) rfl ?_); refine box_event ?hg (N := 2) ?hd (cs := #[.bool a0_0, .bool a0_1, .bool a0_2, .bool a0_3, .int .u32 a0_4, .int .u32 a0_5, .int .i64 a0_6]) (t := 24) ?hr ?_; (case hd => rfl); (case hg => rfl); (case hr => first | (go_simp; done) | (go_simp; rfl)); intro gb217 hg w4 hbox hb; have n0_ := Aside0.mk (below_step (by repeat (first | (with_reducible first | exact HB.out | apply below_alloc | apply pw_below_drewN | apply below_drew1) | exact HB.out)) hb); have n1_ := Aside0.mk (hbox); have n2_ := Aside0.mk ((by rw [hg]; exact (below_size (by repeat (first | (with_reducible first | exact HB.out | apply below_alloc | apply pw_below_drewN | apply below_drew1) | exact HB.out))) : w.heap.size ≤ gb217)); have n3_ := Aside0.mk ((by rw [hg]; exact (below_size (by repeat (first | (with_reducible first | exact HB.out | apply below_alloc | apply pw_below_drewN | apply below_drew1) | exact HB.out))) : w.heap.size ≤ gb217)); clear HB; have HB := n0_; have BK217 := n1_; have GW217 := n2_; have GE217 := n3_; clear n0_ n1_ n2_ n3_; clear hb hbox hg) | ((with_reducible refine gate_dst (N := 7) rfl ?_); refine Kd.S_lit (Kd.slice 5 (Kd.int .u8)) _ 35 ?hg (N := 7) ?hd (xs := ([] : List (List Int))) (inner := []) (ok := fun _ => True) (okp := fun _ => True) ?hr ?hp (fun _ hk => hk) trivial (Below.refl _ _) (Nat.le_refl _) (by simp) ?_; (case hd => rfl); (case hg => rfl); (case hr => first | (go_simp; done) | (go_simp; rfl)); (case hp => exact (Reps.none _ _)); intro v219 w5 ho6 hb hg_ hnew_; clear hg_ hnew_; (first | rw [← Ny218.out] at ho6 | (simp only [Int.reduceToNat] at ho6; rw [← Ny218.out] at ho6)); have n0_ := Aside0.mk (Kd.S_lower ho6 (below_size (by repeat (first | (with_reducible first | exact HB.out | apply below_alloc | apply pw_below_drewN | apply below_drew1 | refine below_set ?_ GE217.out) | exact HB.out)))); have n1_ := Aside0.mk (blk_below (g := gb217) (o := .cells #[.bool a0_0, .bool a0_1, .bool a0_2, .bool a0_3, .int .u32 a0_4, .int .u32 a0_5, .int .i64 a0_6] 24 (0, 0)) (by (with_reducible repeat (first | refine blk_drewN ?_ _ | refine blk_drew ?_ | refine blk_alloc ?_ _)); exact BK217.out) hb); have n2_ := Aside0.mk (below_step (by repeat (first | (with_reducible first | exact HB.out | apply below_alloc | apply pw_below_drewN | apply below_drew1 | refine below_set ?_ GE217.out) | exact HB.out)) hb); clear BK217; clear HB; have HO220 := n0_; have BK217 := n1_; have HB := n2_; clear n0_ n1_ n2_; clear hb ho6))
  (try simp only [Act.put, List.setIfInBounds_toArray, List.set_cons_zero, List.set_cons_succ])
  go_cut [6] (fun v6 wc => ∃ (kq : Nat) (x6_2 : Bool), v6 = .bool x6_2 ∧ Aside0 (marlineref10_All.j0 kq a1 y218 x6_2 a0_0 a0_1 a0_2 a0_3 a0_4 a0_5 a0_6 = some r) ∧ Aside0 (kq ≤ k) ∧ Aside0 (Kd.S (Kd.slice 5 (Kd.int .u8)) 35 wc w.heap.size (fun _ => True) v219 y218) ∧ Aside0 (wc.heap[gb217]? = some (.cells #[.bool a0_0, .bool a0_1, .bool a0_2, .bool a0_3, .int .u32 a0_4, .int .u32 a0_5, .int .i64 a0_6] 24 (0, 0))) ∧ Aside0 (Below w.heap.size w wc))
  case first =>
    have H := HC3.out
    clear HC3
    by_cases c7 : a0_3 = true
    · subst c7
      have H1 : (marlineref10_All.j0 k a1 y218 (decide (a1 < 256)) a0_0 a0_1 a0_2 true a0_4 a0_5 a0_6) = some r := by rw [if_pos rfl] at H; exact H
      clear H
      have H := H1
      clear H1
      have H' := Aside0.mk H
      clear H
      have hcz8_0 : w5.cell? ⟨gb217, 0, none⟩ = some (.bool a0_0) := (blk_cell BK217.out 0).trans rfl
      have hcz8_1 : w5.cell? ⟨gb217, 1, none⟩ = some (.bool a0_1) := (blk_cell BK217.out 1).trans rfl
      have hcz8_2 : w5.cell? ⟨gb217, 2, none⟩ = some (.bool a0_2) := (blk_cell BK217.out 2).trans rfl
      have hcz8_3 : w5.cell? ⟨gb217, 3, none⟩ = some (.bool true) := (blk_cell BK217.out 3).trans rfl
      have hcz8_4 : w5.cell? ⟨gb217, 4, none⟩ = some (.int .u32 a0_4) := (blk_cell BK217.out 4).trans rfl
      have hcz8_5 : w5.cell? ⟨gb217, 5, none⟩ = some (.int .u32 a0_5) := (blk_cell BK217.out 5).trans rfl
      have hcz8_6 : w5.cell? ⟨gb217, 6, none⟩ = some (.int .i64 a0_6) := (blk_cell BK217.out 6).trans rfl
      have hfz8_0 := blk_frozen BK217.out 0
      have hfz8_1 := blk_frozen BK217.out 1
      have hfz8_2 := blk_frozen BK217.out 2
      have hfz8_3 := blk_frozen BK217.out 3
      have hfz8_4 := blk_frozen BK217.out 4
      have hfz8_5 := blk_frozen BK217.out 5
      have hfz8_6 := blk_frozen BK217.out 6
      go_wp2
      go_meet
      case rel => exact ⟨_, (decide (a1 < 256)), (by first | rfl | (simp; done) | (simp [*]; done)), H', ⟨by first | omega | exact Nat.le_refl _⟩, ⟨by (with_reducible repeat (first | apply Kd.S_alloc | apply Kd.S_drewN | apply Kd.S_drew)); exact HO220.out⟩, ⟨by (with_reducible repeat (first | refine blk_drewN ?_ _ | refine blk_drew ?_ | refine blk_alloc ?_ _)); exact BK217.out⟩, ⟨by repeat (first | (with_reducible first | exact HB.out | apply below_alloc | apply pw_below_drewN | apply below_drew1 | refine below_set ?_ GE217.out) | exact HB.out)⟩⟩
    · replace c7 := Bool.eq_false_iff.mpr c7
      subst c7
      have H1 : (marlineref10_All.j0 k a1 y218 false a0_0 a0_1 a0_2 false a0_4 a0_5 a0_6) = some r := by rw [if_neg (show ¬ (false = true) by decide)] at H; exact H
      clear H
      have H := H1
      clear H1
      have H' := Aside0.mk H
      clear H
      have hcz9_0 : w5.cell? ⟨gb217, 0, none⟩ = some (.bool a0_0) := (blk_cell BK217.out 0).trans rfl
      have hcz9_1 : w5.cell? ⟨gb217, 1, none⟩ = some (.bool a0_1) := (blk_cell BK217.out 1).trans rfl
      have hcz9_2 : w5.cell? ⟨gb217, 2, none⟩ = some (.bool a0_2) := (blk_cell BK217.out 2).trans rfl
      have hcz9_3 : w5.cell? ⟨gb217, 3, none⟩ = some (.bool false) := (blk_cell BK217.out 3).trans rfl
      have hcz9_4 : w5.cell? ⟨gb217, 4, none⟩ = some (.int .u32 a0_4) := (blk_cell BK217.out 4).trans rfl
      have hcz9_5 : w5.cell? ⟨gb217, 5, none⟩ = some (.int .u32 a0_5) := (blk_cell BK217.out 5).trans rfl
      have hcz9_6 : w5.cell? ⟨gb217, 6, none⟩ = some (.int .i64 a0_6) := (blk_cell BK217.out 6).trans rfl
      have hfz9_0 := blk_frozen BK217.out 0
      have hfz9_1 := blk_frozen BK217.out 1
      have hfz9_2 := blk_frozen BK217.out 2
      have hfz9_3 := blk_frozen BK217.out 3
      have hfz9_4 := blk_frozen BK217.out 4
      have hfz9_5 := blk_frozen BK217.out 5
      have hfz9_6 := blk_frozen BK217.out 6
      go_wp2
      go_meet
      case rel => exact ⟨_, (false), (by first | rfl | (simp; done) | (simp [*]; done)), H', ⟨by first | omega | exact Nat.le_refl _⟩, ⟨by (with_reducible repeat (first | apply Kd.S_alloc | apply Kd.S_drewN | apply Kd.S_drew)); exact HO220.out⟩, ⟨by (with_reducible repeat (first | refine blk_drewN ?_ _ | refine blk_drew ?_ | refine blk_alloc ?_ _)); exact BK217.out⟩, ⟨by repeat (first | (with_reducible first | exact HB.out | apply below_alloc | apply pw_below_drewN | apply below_drew1 | refine below_set ?_ GE217.out) | exact HB.out)⟩⟩
  case rest =>
    clear HC3
    try clear p2
    try clear c3
    try clear c7
    try clear hcz8_0
    try clear hcz8_1
    try clear hcz8_2
    try clear hcz8_3
    try clear hcz8_4
    try clear hcz8_5
    try clear hcz8_6
    try clear hcz9_0
    try clear hcz9_1
    try clear hcz9_2
    try clear hcz9_3
    try clear hcz9_4
    try clear hcz9_5
    try clear hcz9_6
    try clear hfz8_0
    try clear hfz8_1
    try clear hfz8_2
    try clear hfz8_3
    try clear hfz8_4
    try clear hfz8_5
    try clear hfz8_6
    try clear hfz9_0
    try clear hfz9_1
    try clear hfz9_2
    try clear hfz9_3
    try clear hfz9_4
    try clear hfz9_5
    try clear hfz9_6
    obtain ⟨kq, x6_2, rfl, HA, HJ2, HO_5, BK217, HB⟩ := hcut
    cases kq with
    | zero => exact absurd HA.out (by simp [marlineref10_All.j0])
    | succ kj2 =>
      have H := HA.out
      clear HA
      simp only [marlineref10_All.j0] at H
      have HC10 := Aside0.mk H
      clear H
      go_upto_region 3 with (fail)
      go_cut [18] (fun v18 wc => ∃ (kq : Nat) (x18_9 : Bool), v18 = .bool x18_9 ∧ Aside0 (marlineref10_All.j1 kq a1 y218 x6_2 x18_9 a0_0 a0_1 a0_2 a0_3 a0_4 a0_5 a0_6 = some r) ∧ Aside0 (kq ≤ kj2) ∧ Aside0 (Kd.S (Kd.slice 5 (Kd.int .u8)) 35 wc w.heap.size (fun _ => True) v219 y218) ∧ Aside0 (wc.heap[gb217]? = some (.cells #[.bool a0_0, .bool a0_1, .bool a0_2, .bool a0_3, .int .u32 a0_4, .int .u32 a0_5, .int .i64 a0_6] 24 (0, 0))) ∧ Aside0 (Below w.heap.size w wc))
      case first =>
        have H := HC10.out
        clear HC10
        by_cases c11 : a0_2 = true
        · subst c11
          have H1 : (marlineref10_All.j1 kj2 a1 y218 x6_2 x6_2 a0_0 a0_1 true a0_3 a0_4 a0_5 a0_6) = some r := by rw [if_pos rfl] at H; exact H
          clear H
          have H := H1
          clear H1
          have H' := Aside0.mk H
          clear H
          have hcz12_0 : wc.cell? ⟨gb217, 0, none⟩ = some (.bool a0_0) := (blk_cell BK217.out 0).trans rfl
          have hcz12_1 : wc.cell? ⟨gb217, 1, none⟩ = some (.bool a0_1) := (blk_cell BK217.out 1).trans rfl
          have hcz12_2 : wc.cell? ⟨gb217, 2, none⟩ = some (.bool true) := (blk_cell BK217.out 2).trans rfl
          have hcz12_3 : wc.cell? ⟨gb217, 3, none⟩ = some (.bool a0_3) := (blk_cell BK217.out 3).trans rfl
          have hcz12_4 : wc.cell? ⟨gb217, 4, none⟩ = some (.int .u32 a0_4) := (blk_cell BK217.out 4).trans rfl
          have hcz12_5 : wc.cell? ⟨gb217, 5, none⟩ = some (.int .u32 a0_5) := (blk_cell BK217.out 5).trans rfl
          have hcz12_6 : wc.cell? ⟨gb217, 6, none⟩ = some (.int .i64 a0_6) := (blk_cell BK217.out 6).trans rfl
          have hfz12_0 := blk_frozen BK217.out 0
          have hfz12_1 := blk_frozen BK217.out 1
          have hfz12_2 := blk_frozen BK217.out 2
          have hfz12_3 := blk_frozen BK217.out 3
          have hfz12_4 := blk_frozen BK217.out 4
          have hfz12_5 := blk_frozen BK217.out 5
          have hfz12_6 := blk_frozen BK217.out 6
          go_wp2
          go_meet
          case rel => exact ⟨_, (x6_2), (by first | rfl | (simp; done) | (simp [*]; done)), H', ⟨by have := HJ2.out; first | omega | exact Nat.le_refl _⟩, ⟨by (with_reducible repeat (first | apply Kd.S_alloc | apply Kd.S_drewN | apply Kd.S_drew)); exact HO_5.out⟩, ⟨by (with_reducible repeat (first | refine blk_drewN ?_ _ | refine blk_drew ?_ | refine blk_alloc ?_ _)); exact BK217.out⟩, ⟨by repeat (first | (with_reducible first | exact HB.out | apply below_alloc | apply pw_below_drewN | apply below_drew1 | refine below_set ?_ GE217.out) | exact HB.out)⟩⟩
        · replace c11 := Bool.eq_false_iff.mpr c11
          subst c11
          have H1 : (marlineref10_All.j1 kj2 a1 y218 x6_2 false a0_0 a0_1 false a0_3 a0_4 a0_5 a0_6) = some r := by rw [if_neg (show ¬ (false = true) by decide)] at H; exact H
          clear H
          have H := H1
          clear H1
          have H' := Aside0.mk H
          clear H
          have hcz13_0 : wc.cell? ⟨gb217, 0, none⟩ = some (.bool a0_0) := (blk_cell BK217.out 0).trans rfl
          have hcz13_1 : wc.cell? ⟨gb217, 1, none⟩ = some (.bool a0_1) := (blk_cell BK217.out 1).trans rfl
          have hcz13_2 : wc.cell? ⟨gb217, 2, none⟩ = some (.bool false) := (blk_cell BK217.out 2).trans rfl
          have hcz13_3 : wc.cell? ⟨gb217, 3, none⟩ = some (.bool a0_3) := (blk_cell BK217.out 3).trans rfl
          have hcz13_4 : wc.cell? ⟨gb217, 4, none⟩ = some (.int .u32 a0_4) := (blk_cell BK217.out 4).trans rfl
          have hcz13_5 : wc.cell? ⟨gb217, 5, none⟩ = some (.int .u32 a0_5) := (blk_cell BK217.out 5).trans rfl
          have hcz13_6 : wc.cell? ⟨gb217, 6, none⟩ = some (.int .i64 a0_6) := (blk_cell BK217.out 6).trans rfl
          have hfz13_0 := blk_frozen BK217.out 0
          have hfz13_1 := blk_frozen BK217.out 1
          have hfz13_2 := blk_frozen BK217.out 2
          have hfz13_3 := blk_frozen BK217.out 3
          have hfz13_4 := blk_frozen BK217.out 4
          have hfz13_5 := blk_frozen BK217.out 5
          have hfz13_6 := blk_frozen BK217.out 6
          go_wp2
          go_meet
          case rel => exact ⟨_, (false), (by first | rfl | (simp; done) | (simp [*]; done)), H', ⟨by have := HJ2.out; first | omega | exact Nat.le_refl _⟩, ⟨by (with_reducible repeat (first | apply Kd.S_alloc | apply Kd.S_drewN | apply Kd.S_drew)); exact HO_5.out⟩, ⟨by (with_reducible repeat (first | refine blk_drewN ?_ _ | refine blk_drew ?_ | refine blk_alloc ?_ _)); exact BK217.out⟩, ⟨by repeat (first | (with_reducible first | exact HB.out | apply below_alloc | apply pw_below_drewN | apply below_drew1 | refine below_set ?_ GE217.out) | exact HB.out)⟩⟩
      case rest =>
        clear HC10
        try clear c1
        try clear p2
        try clear c3
        try clear c7
        try clear c11
        try clear hcz12_0
        try clear hcz12_1
        try clear hcz12_2
        try clear hcz12_3
        try clear hcz12_4
        try clear hcz12_5
        try clear hcz12_6
        try clear hcz13_0
        try clear hcz13_1
        try clear hcz13_2
        try clear hcz13_3
        try clear hcz13_4
        try clear hcz13_5
        try clear hcz13_6
        try clear hcz8_0
        try clear hcz8_1
        try clear hcz8_2
        try clear hcz8_3
        try clear hcz8_4
        try clear hcz8_5
        try clear hcz8_6
        try clear hcz9_0
        try clear hcz9_1
        try clear hcz9_2
        try clear hcz9_3
        try clear hcz9_4
        try clear hcz9_5
        try clear hcz9_6
        try clear hfz12_0
        try clear hfz12_1
        try clear hfz12_2
        try clear hfz12_3
        try clear hfz12_4
        try clear hfz12_5
        try clear hfz12_6
        try clear hfz13_0
        try clear hfz13_1
        try clear hfz13_2
        try clear hfz13_3
        try clear hfz13_4
        try clear hfz13_5
        try clear hfz13_6
        try clear hfz8_0
        try clear hfz8_1
        try clear hfz8_2
        try clear hfz8_3
        try clear hfz8_4
        try clear hfz8_5
        try clear hfz8_6
        try clear hfz9_0
        try clear hfz9_1
        try clear hfz9_2
        try clear hfz9_3
        try clear hfz9_4
        try clear hfz9_5
        try clear hfz9_6
        try clear p2
        obtain ⟨kq, x18_9, rfl, HA, HJ9, HO_5, BK217, HB⟩ := hcut
        cases kq with
        | zero => exact absurd HA.out (by simp [marlineref10_All.j1])
        | succ kj9 =>
          have H := HA.out
          clear HA
          simp only [marlineref10_All.j1] at H
          have HC14 := Aside0.mk H
          clear H
          go_upto_if 18 with (fail)
          go_cut [5] (fun v5 wc => ∃ (kq : Nat) (x5_13 : List (List Int)), Aside0 (marlineref10_All.j2 kq a1 x5_13 x6_2 a0_0 a0_1 a0_2 a0_3 a0_4 a0_5 a0_6 = some r) ∧ Aside0 (kq ≤ kj9) ∧ Aside0 (Kd.S (Kd.slice 5 (Kd.int .u8)) 35 wc w.heap.size (fun _ => True) v5 x5_13) ∧ Aside0 (wc.heap[gb217]? = some (.cells #[.bool a0_0, .bool a0_1, .bool a0_2, .bool a0_3, .int .u32 a0_4, .int .u32 a0_5, .int .i64 a0_6] 24 (0, 0))) ∧ Aside0 (Below w.heap.size w wc))
          case first =>
            have H := HC14.out
            clear HC14
            by_cases c15 : x18_9 = true
            · subst c15
              have H1 : ((marlineref09_Put.f a1 true).bind fun t221 => (if y218.length < 5864062014805 then (marlineref10_All.j2 kj9 a1 (y218 ++ [t221]) x6_2 a0_0 a0_1 a0_2 a0_3 a0_4 a0_5 a0_6) else (none))) = some r := by rw [if_pos rfl] at H; exact H
              clear H
              have H := H1
              clear H1
              replace H := Option.bind_eq_some_iff.mp H
              obtain ⟨t221, A160, H⟩ := H
              replace H : (if y218.length < 5864062014805 then (marlineref10_All.j2 kj9 a1 (y218 ++ [t221]) x6_2 a0_0 a0_1 a0_2 a0_3 a0_4 a0_5 a0_6) else (none)) = some r := H
              have A16 := Aside0.mk A160
              clear A160
              by_cases c17 : y218.length < 5864062014805
              · rw [if_pos c17] at H
                have LMc17 := Aside0.mk c17
                clear c17
                obtain ⟨y224, hy224⟩ : ∃ y_ : List (List Int), y_ = (y218 ++ [t221]) := ⟨_, rfl⟩
                replace H : (marlineref10_All.j2 kj9 a1 y224 x6_2 a0_0 a0_1 a0_2 a0_3 a0_4 a0_5 a0_6) = some r := by first | (rw [hy224]; with_reducible exact H) | (have H2_ := (Option.bind_some _ _).symm.trans H; rw [hy224]; with_reducible exact H2_) | (have H2_ := (Option.bind_some _ _).symm.trans H; with_reducible exact H2_) | with_reducible exact H | (rw [hy224]; exact H) | exact H
                have Ny224 := Aside0.mk hy224
                clear hy224
                have H' := Aside0.mk H
                clear H
                go_wp2_with (first | ((with_reducible refine gate_callee (f := 61) rfl ?_); refine goesL_ (some 21) rfl rfl Tryd.func61 (by kernel_rfl) rfl #[.int .i64 a1, .bool true] rfl (by (try simp only [List.map_toArray, List.map_cons, List.map_nil]); first | done | rfl | (simp only [List.length_drop, List.length_take]; rfl)) ?_; (with_reducible refine (marlineref09_Put.calls a1 true t221 _ A16.out).mono ?_); rintro e w18 ⟨v222, rfl, ho0, hb⟩; refine ⟨_, rfl, ?_⟩; have n0_ := Aside0.mk (Kd.S_elder' (by (with_reducible repeat (first | apply Kd.S_alloc | apply Kd.S_drewN | apply Kd.S_drew)); exact HO_5.out) (Kd.R_base ho0) hb); have n1_ := Aside0.mk (Kd.R_lower ho0 (below_size (by repeat (first | (with_reducible first | exact HB.out | apply below_alloc | apply pw_below_drewN | apply below_drew1 | refine below_set ?_ GE217.out) | exact HB.out)))); have n2_ := Aside0.mk (blk_below (g := gb217) (o := .cells #[.bool a0_0, .bool a0_1, .bool a0_2, .bool a0_3, .int .u32 a0_4, .int .u32 a0_5, .int .i64 a0_6] 24 (0, 0)) (by (with_reducible repeat (first | refine blk_drewN ?_ _ | refine blk_drew ?_ | refine blk_alloc ?_ _)); exact BK217.out) hb); have n3_ := Aside0.mk (below_step (by repeat (first | (with_reducible first | exact HB.out | apply below_alloc | apply pw_below_drewN | apply below_drew1 | refine below_set ?_ GE217.out) | exact HB.out)) hb); clear HO_5; clear BK217; clear HB; have HO_5 := n0_; have HO223 := n1_; have BK217 := n2_; have HB := n3_; clear n0_ n1_ n2_ n3_; (try clear hb); (try clear hb2); (try clear hk); (try clear hi); (try clear ho0); obtain ⟨Ao20, co20, eo20⟩ := Kd.R_slice HO223.out; subst eo20) | ((with_reducible refine gate_builtin (b := .append) (xs := #[.tmp 19, .tmp 22]) rfl ?_); at_builtin; refine Kd.S_append (Kd.slice 5 (Kd.int .u8)) (w0 := w) w.heap.size rfl (.tmp 19) (.tmp 22) 47 35 (.slice none 0 0) 24 rfl Tryd.underlying47 info35 rfl (by decide) (by omega) v219 y218 t221 [.slice Ao20 t221.length co20] (fun _ => True) (fun k_ => some k_ = (.slice Ao20 t221.length co20 : Value).ownBlock) rfl rfl ?aP (fun k_ hk_ => ((Kd.R_mono (ok' := fun k_ => ((fun _ => True)) k_ ∧ some k_ ≠ (v219 : Value).ownBlock) (Kd.R_apart' (HO223.out) (Kd.S_typed HO_5.out) (by decide)) (fun k_ hk => ⟨trivial, hk.2⟩))).1 k_ hk_.symm) ?aF ?aO ?aB ?aS ?aL ?_; (case aP => exact Kd.M_row (Kd.R_mono (Kd.R_tight rfl (Kd.R_mono (ok' := fun k_ => ((fun _ => True)) k_ ∧ some k_ ≠ (v219 : Value).ownBlock) (Kd.R_apart' (HO223.out) (Kd.S_typed HO_5.out) (by decide)) (fun k_ hk => ⟨trivial, hk.2⟩))) (fun _ h_ => h_))); (case aB => exact (by repeat (first | (with_reducible first | exact HB.out | apply below_alloc | apply pw_below_drewN | apply below_drew1 | refine below_set ?_ GE217.out) | exact HB.out))); (case aF => exact (fun _ _ => trivial)); (case aO => exact (by (with_reducible repeat (first | apply Kd.S_alloc | apply Kd.S_drewN | apply Kd.S_drew)); exact Kd.S_mono HO_5.out (fun k_ hk => ⟨trivial, fun e_ => hk.2 e_⟩))); (case aS => exact (below_size (by repeat (first | (with_reducible first | exact HB.out | apply below_alloc | apply pw_below_drewN | apply below_drew1 | refine below_set ?_ GE217.out) | exact HB.out)))); (case aL => have := LMc17.out; omega); intro v225 w19 ho hb hg hat; rw [← Ny224.out] at ho; have n0_ := Aside0.mk (blk_grown (g := gb217) (o := .cells #[.bool a0_0, .bool a0_1, .bool a0_2, .bool a0_3, .int .u32 a0_4, .int .u32 a0_5, .int .i64 a0_6] 24 (0, 0)) (by (with_reducible repeat (first | refine blk_drewN ?_ _ | refine blk_drew ?_ | refine blk_alloc ?_ _)); exact BK217.out) hg (Kd.S_ne HO_5.out BK217.out (by decide))); have n1_ := Aside0.mk (hb); have n2_ := Aside0.mk (ho); clear BK217; clear HB; clear HO_5; clear HO223; have BK217 := n0_; have HB := n1_; have HO226 := n2_; clear n0_ n1_ n2_; clear ho hb hg hat))
                go_meet
                case rel => exact ⟨_, (y224), H', ⟨by have := HJ2.out; have := HJ9.out; first | omega | exact Nat.le_refl _⟩, ⟨by (with_reducible repeat (first | apply Kd.S_alloc | apply Kd.S_drewN | apply Kd.S_drew)); exact HO226.out⟩, ⟨by (with_reducible repeat (first | refine blk_drewN ?_ _ | refine blk_drew ?_ | refine blk_alloc ?_ _)); exact BK217.out⟩, ⟨by repeat (first | (with_reducible first | exact HB.out | apply below_alloc | apply pw_below_drewN | apply below_drew1 | refine below_set ?_ GE217.out) | exact HB.out)⟩⟩
              · rw [if_neg c17] at H
                exact absurd H (by simp)
            · replace c15 := Bool.eq_false_iff.mpr c15
              subst c15
              have H1 : (marlineref10_All.j2 kj9 a1 y218 x6_2 a0_0 a0_1 a0_2 a0_3 a0_4 a0_5 a0_6) = some r := by rw [if_neg (show ¬ (false = true) by decide)] at H; exact H
              clear H
              have H := H1
              clear H1
              have H' := Aside0.mk H
              clear H
              go_wp2
              go_meet
              case rel => exact ⟨_, (y218), H', ⟨by have := HJ2.out; have := HJ9.out; first | omega | exact Nat.le_refl _⟩, ⟨by (with_reducible repeat (first | apply Kd.S_alloc | apply Kd.S_drewN | apply Kd.S_drew)); exact HO_5.out⟩, ⟨by (with_reducible repeat (first | refine blk_drewN ?_ _ | refine blk_drew ?_ | refine blk_alloc ?_ _)); exact BK217.out⟩, ⟨by repeat (first | (with_reducible first | exact HB.out | apply below_alloc | apply pw_below_drewN | apply below_drew1 | refine below_set ?_ GE217.out) | exact HB.out)⟩⟩
          case rest =>
            clear HC14
            try clear c1
            try clear p2
            try clear c3
            try clear c6
            try clear c7
            try clear c11
            try clear c15
            try clear c17
            try clear hcz12_0
            try clear hcz12_1
            try clear hcz12_2
            try clear hcz12_3
            try clear hcz12_4
            try clear hcz12_5
            try clear hcz12_6
            try clear hcz13_0
            try clear hcz13_1
            try clear hcz13_2
            try clear hcz13_3
            try clear hcz13_4
            try clear hcz13_5
            try clear hcz13_6
            try clear hcz8_0
            try clear hcz8_1
            try clear hcz8_2
            try clear hcz8_3
            try clear hcz8_4
            try clear hcz8_5
            try clear hcz8_6
            try clear hcz9_0
            try clear hcz9_1
            try clear hcz9_2
            try clear hcz9_3
            try clear hcz9_4
            try clear hcz9_5
            try clear hcz9_6
            try clear hfz12_0
            try clear hfz12_1
            try clear hfz12_2
            try clear hfz12_3
            try clear hfz12_4
            try clear hfz12_5
            try clear hfz12_6
            try clear hfz13_0
            try clear hfz13_1
            try clear hfz13_2
            try clear hfz13_3
            try clear hfz13_4
            try clear hfz13_5
            try clear hfz13_6
            try clear hfz8_0
            try clear hfz8_1
            try clear hfz8_2
            try clear hfz8_3
            try clear hfz8_4
            try clear hfz8_5
            try clear hfz8_6
            try clear hfz9_0
            try clear hfz9_1
            try clear hfz9_2
            try clear hfz9_3
            try clear hfz9_4
            try clear hfz9_5
            try clear hfz9_6
            try clear p2
            obtain ⟨kq, x5_13, HA, HJ13, HO_5, BK217, HB⟩ := hcut
            cases kq with
            | zero => exact absurd HA.out (by simp [marlineref10_All.j2])
            | succ kj13 =>
              have H := HA.out
              clear HA
              simp only [marlineref10_All.j2] at H
              have HC21 := Aside0.mk H
              clear H
              have hcz22_0 : wc.cell? ⟨gb217, 0, none⟩ = some (.bool a0_0) := (blk_cell BK217.out 0).trans rfl
              have hcz22_1 : wc.cell? ⟨gb217, 1, none⟩ = some (.bool a0_1) := (blk_cell BK217.out 1).trans rfl
              have hcz22_2 : wc.cell? ⟨gb217, 2, none⟩ = some (.bool a0_2) := (blk_cell BK217.out 2).trans rfl
              have hcz22_3 : wc.cell? ⟨gb217, 3, none⟩ = some (.bool a0_3) := (blk_cell BK217.out 3).trans rfl
              have hcz22_4 : wc.cell? ⟨gb217, 4, none⟩ = some (.int .u32 a0_4) := (blk_cell BK217.out 4).trans rfl
              have hcz22_5 : wc.cell? ⟨gb217, 5, none⟩ = some (.int .u32 a0_5) := (blk_cell BK217.out 5).trans rfl
              have hcz22_6 : wc.cell? ⟨gb217, 6, none⟩ = some (.int .i64 a0_6) := (blk_cell BK217.out 6).trans rfl
              have hfz22_0 := blk_frozen BK217.out 0
              have hfz22_1 := blk_frozen BK217.out 1
              have hfz22_2 := blk_frozen BK217.out 2
              have hfz22_3 := blk_frozen BK217.out 3
              have hfz22_4 := blk_frozen BK217.out 4
              have hfz22_5 := blk_frozen BK217.out 5
              have hfz22_6 := blk_frozen BK217.out 6
              go_upto_if 25 with (fail)
              go_cut [5] (fun v5 wc => ∃ (kq : Nat) (x5_20 : List (List Int)), Aside0 (marlineref10_All.j3 kq a1 x5_20 x6_2 = some r) ∧ Aside0 (kq ≤ kj13) ∧ Aside0 (Kd.S (Kd.slice 5 (Kd.int .u8)) 35 wc w.heap.size (fun _ => True) v5 x5_20) ∧ Aside0 (wc.heap[gb217]? = some (.cells #[.bool a0_0, .bool a0_1, .bool a0_2, .bool a0_3, .int .u32 a0_4, .int .u32 a0_5, .int .i64 a0_6] 24 (0, 0))) ∧ Aside0 (Below w.heap.size w wc))
              case first =>
                have H := HC21.out
                clear HC21
                by_cases c23 : a0_2 = true
                · subst c23
                  have H1 : ((marlineref09_Put.f a1 false).bind fun t227 => (if x5_13.length < 5864062014805 then (marlineref10_All.j3 kj13 a1 (x5_13 ++ [t227]) x6_2) else (none))) = some r := by rw [if_pos rfl] at H; exact H
                  clear H
                  have H := H1
                  clear H1
                  replace H := Option.bind_eq_some_iff.mp H
                  obtain ⟨t227, A240, H⟩ := H
                  replace H : (if x5_13.length < 5864062014805 then (marlineref10_All.j3 kj13 a1 (x5_13 ++ [t227]) x6_2) else (none)) = some r := H
                  have A24 := Aside0.mk A240
                  clear A240
                  by_cases c25 : x5_13.length < 5864062014805
                  · rw [if_pos c25] at H
                    have LMc25 := Aside0.mk c25
                    clear c25
                    obtain ⟨y230, hy230⟩ : ∃ y_ : List (List Int), y_ = (x5_13 ++ [t227]) := ⟨_, rfl⟩
                    replace H : (marlineref10_All.j3 kj13 a1 y230 x6_2) = some r := by first | (rw [hy230]; with_reducible exact H) | (have H2_ := (Option.bind_some _ _).symm.trans H; rw [hy230]; with_reducible exact H2_) | (have H2_ := (Option.bind_some _ _).symm.trans H; with_reducible exact H2_) | with_reducible exact H | (rw [hy230]; exact H) | exact H
                    have Ny230 := Aside0.mk hy230
                    clear hy230
                    have H' := Aside0.mk H
                    clear H
                    go_wp2_with (first | ((with_reducible refine gate_callee (f := 61) rfl ?_); refine goesL_ (some 28) rfl rfl Tryd.func61 (by kernel_rfl) rfl #[.int .i64 a1, .bool false] rfl (by (try simp only [List.map_toArray, List.map_cons, List.map_nil]); first | done | rfl | (simp only [List.length_drop, List.length_take]; rfl)) ?_; (with_reducible refine (marlineref09_Put.calls a1 false t227 _ A24.out).mono ?_); rintro e w26 ⟨v228, rfl, ho0, hb⟩; refine ⟨_, rfl, ?_⟩; have n0_ := Aside0.mk (Kd.S_elder' (by (with_reducible repeat (first | apply Kd.S_alloc | apply Kd.S_drewN | apply Kd.S_drew)); exact HO_5.out) (Kd.R_base ho0) hb); have n1_ := Aside0.mk (Kd.R_lower ho0 (below_size (by repeat (first | (with_reducible first | exact HB.out | apply below_alloc | apply pw_below_drewN | apply below_drew1 | refine below_set ?_ GE217.out) | exact HB.out)))); have n2_ := Aside0.mk (blk_below (g := gb217) (o := .cells #[.bool a0_0, .bool a0_1, .bool true, .bool a0_3, .int .u32 a0_4, .int .u32 a0_5, .int .i64 a0_6] 24 (0, 0)) (by (with_reducible repeat (first | refine blk_drewN ?_ _ | refine blk_drew ?_ | refine blk_alloc ?_ _)); exact BK217.out) hb); have n3_ := Aside0.mk (below_step (by repeat (first | (with_reducible first | exact HB.out | apply below_alloc | apply pw_below_drewN | apply below_drew1 | refine below_set ?_ GE217.out) | exact HB.out)) hb); clear HO_5; clear BK217; clear HB; have HO_5 := n0_; have HO229 := n1_; have BK217 := n2_; have HB := n3_; clear n0_ n1_ n2_ n3_; (try clear hb); (try clear hb2); (try clear hk); (try clear hi); (try clear ho0); obtain ⟨Ao28, co28, eo28⟩ := Kd.R_slice HO229.out; subst eo28) | ((with_reducible refine gate_builtin (b := .append) (xs := #[.tmp 26, .tmp 29]) rfl ?_); at_builtin; refine Kd.S_append (Kd.slice 5 (Kd.int .u8)) (w0 := w) w.heap.size rfl (.tmp 26) (.tmp 29) 47 35 (.slice none 0 0) 24 rfl Tryd.underlying47 info35 rfl (by decide) (by omega) u5 x5_13 t227 [.slice Ao28 t227.length co28] (fun _ => True) (fun k_ => some k_ = (.slice Ao28 t227.length co28 : Value).ownBlock) rfl rfl ?aP (fun k_ hk_ => ((Kd.R_mono (ok' := fun k_ => ((fun _ => True)) k_ ∧ some k_ ≠ (u5 : Value).ownBlock) (Kd.R_apart' (HO229.out) (Kd.S_typed HO_5.out) (by decide)) (fun k_ hk => ⟨trivial, hk.2⟩))).1 k_ hk_.symm) ?aF ?aO ?aB ?aS ?aL ?_; (case aP => exact Kd.M_row (Kd.R_mono (Kd.R_tight rfl (Kd.R_mono (ok' := fun k_ => ((fun _ => True)) k_ ∧ some k_ ≠ (u5 : Value).ownBlock) (Kd.R_apart' (HO229.out) (Kd.S_typed HO_5.out) (by decide)) (fun k_ hk => ⟨trivial, hk.2⟩))) (fun _ h_ => h_))); (case aB => exact (by repeat (first | (with_reducible first | exact HB.out | apply below_alloc | apply pw_below_drewN | apply below_drew1 | refine below_set ?_ GE217.out) | exact HB.out))); (case aF => exact (fun _ _ => trivial)); (case aO => exact (by (with_reducible repeat (first | apply Kd.S_alloc | apply Kd.S_drewN | apply Kd.S_drew)); exact Kd.S_mono HO_5.out (fun k_ hk => ⟨trivial, fun e_ => hk.2 e_⟩))); (case aS => exact (below_size (by repeat (first | (with_reducible first | exact HB.out | apply below_alloc | apply pw_below_drewN | apply below_drew1 | refine below_set ?_ GE217.out) | exact HB.out)))); (case aL => have := LMc25.out; omega); intro v231 w27 ho hb hg hat; rw [← Ny230.out] at ho; have n0_ := Aside0.mk (blk_grown (g := gb217) (o := .cells #[.bool a0_0, .bool a0_1, .bool true, .bool a0_3, .int .u32 a0_4, .int .u32 a0_5, .int .i64 a0_6] 24 (0, 0)) (by (with_reducible repeat (first | refine blk_drewN ?_ _ | refine blk_drew ?_ | refine blk_alloc ?_ _)); exact BK217.out) hg (Kd.S_ne HO_5.out BK217.out (by decide))); have n1_ := Aside0.mk (hb); have n2_ := Aside0.mk (ho); clear BK217; clear HB; clear HO_5; clear HO229; have BK217 := n0_; have HB := n1_; have HO232 := n2_; clear n0_ n1_ n2_; clear ho hb hg hat))
                    go_meet
                    case rel => exact ⟨_, (y230), H', ⟨by have := HJ2.out; have := HJ9.out; have := HJ13.out; first | omega | exact Nat.le_refl _⟩, ⟨by (with_reducible repeat (first | apply Kd.S_alloc | apply Kd.S_drewN | apply Kd.S_drew)); exact HO232.out⟩, ⟨by (with_reducible repeat (first | refine blk_drewN ?_ _ | refine blk_drew ?_ | refine blk_alloc ?_ _)); exact BK217.out⟩, ⟨by repeat (first | (with_reducible first | exact HB.out | apply below_alloc | apply pw_below_drewN | apply below_drew1 | refine below_set ?_ GE217.out) | exact HB.out)⟩⟩
                  · rw [if_neg c25] at H
                    exact absurd H (by simp)
                · replace c23 := Bool.eq_false_iff.mpr c23
                  subst c23
                  have H1 : (marlineref10_All.j3 kj13 a1 x5_13 x6_2) = some r := by rw [if_neg (show ¬ (false = true) by decide)] at H; exact H
                  clear H
                  have H := H1
                  clear H1
                  have H' := Aside0.mk H
                  clear H
                  go_wp2
                  go_meet
                  case rel => exact ⟨_, (x5_13), H', ⟨by have := HJ2.out; have := HJ9.out; have := HJ13.out; first | omega | exact Nat.le_refl _⟩, ⟨by (with_reducible repeat (first | apply Kd.S_alloc | apply Kd.S_drewN | apply Kd.S_drew)); exact HO_5.out⟩, ⟨by (with_reducible repeat (first | refine blk_drewN ?_ _ | refine blk_drew ?_ | refine blk_alloc ?_ _)); exact BK217.out⟩, ⟨by repeat (first | (with_reducible first | exact HB.out | apply below_alloc | apply pw_below_drewN | apply below_drew1 | refine below_set ?_ GE217.out) | exact HB.out)⟩⟩
              case rest =>
                clear HC21
                try clear c1
                try clear c2
                try clear p2
                try clear c3
                try clear c6
                try clear c7
                try clear c11
                try clear c15
                try clear c17
                try clear c23
                try clear c25
                try clear hcz12_0
                try clear hcz12_1
                try clear hcz12_2
                try clear hcz12_3
                try clear hcz12_4
                try clear hcz12_5
                try clear hcz12_6
                try clear hcz13_0
                try clear hcz13_1
                try clear hcz13_2
                try clear hcz13_3
                try clear hcz13_4
                try clear hcz13_5
                try clear hcz13_6
                try clear hcz22_0
                try clear hcz22_1
                try clear hcz22_2
                try clear hcz22_3
                try clear hcz22_4
                try clear hcz22_5
                try clear hcz22_6
                try clear hcz8_0
                try clear hcz8_1
                try clear hcz8_2
                try clear hcz8_3
                try clear hcz8_4
                try clear hcz8_5
                try clear hcz8_6
                try clear hcz9_0
                try clear hcz9_1
                try clear hcz9_2
                try clear hcz9_3
                try clear hcz9_4
                try clear hcz9_5
                try clear hcz9_6
                try clear hfz12_0
                try clear hfz12_1
                try clear hfz12_2
                try clear hfz12_3
                try clear hfz12_4
                try clear hfz12_5
                try clear hfz12_6
                try clear hfz13_0
                try clear hfz13_1
                try clear hfz13_2
                try clear hfz13_3
                try clear hfz13_4
                try clear hfz13_5
                try clear hfz13_6
                try clear hfz22_0
                try clear hfz22_1
                try clear hfz22_2
                try clear hfz22_3
                try clear hfz22_4
                try clear hfz22_5
                try clear hfz22_6
                try clear hfz8_0
                try clear hfz8_1
                try clear hfz8_2
                try clear hfz8_3
                try clear hfz8_4
                try clear hfz8_5
                try clear hfz8_6
                try clear hfz9_0
                try clear hfz9_1
                try clear hfz9_2
                try clear hfz9_3
                try clear hfz9_4
                try clear hfz9_5
                try clear hfz9_6
                try clear p2
                obtain ⟨kq, x5_20, HA, HJ20, HO_5, BK217, HB⟩ := hcut
                cases kq with
                | zero => exact absurd HA.out (by simp [marlineref10_All.j3])
                | succ kj20 =>
                  have H := HA.out
                  clear HA
                  simp only [marlineref10_All.j3] at H
                  by_cases c29 : x6_2 = true
                  · subst c29
                    have H1 : ((some (([255, 3] : List Int) : List Int)).bind fun y233 => ((marlineref09_Put.f a1 true).bind fun t236 => (if y233.length + t236.length < 140737488355328 then (if x5_20.length < 5864062014805 then ((some (x5_20 ++ [(y233 ++ t236)] : List (List Int))).bind fun y242 => ((some (([255, 3] : List Int) : List Int)).bind fun y245 => ((marlineref09_Put.f a1 false).bind fun t248 => (if y245.length + t248.length < 140737488355328 then (if y242.length < 5864062014805 then (some (y242 ++ [(y245 ++ t248)])) else (none)) else (none))))) else (none)) else (none)))) = some r := by rw [if_pos rfl] at H; exact H
                    clear H
                    have H := H1
                    clear H1
                    obtain ⟨y233, hy233⟩ : ∃ y_ : List Int, y_ = (([255, 3] : List Int)) := ⟨_, rfl⟩
                    replace H : ((marlineref09_Put.f a1 true).bind fun t236 => (if y233.length + t236.length < 140737488355328 then (if x5_20.length < 5864062014805 then ((some (x5_20 ++ [(y233 ++ t236)] : List (List Int))).bind fun y242 => ((some (([255, 3] : List Int) : List Int)).bind fun y245 => ((marlineref09_Put.f a1 false).bind fun t248 => (if y245.length + t248.length < 140737488355328 then (if y242.length < 5864062014805 then (some (y242 ++ [(y245 ++ t248)])) else (none)) else (none))))) else (none)) else (none))) = some r := by first | (rw [hy233]; with_reducible exact H) | (have H2_ := (Option.bind_some _ _).symm.trans H; rw [hy233]; with_reducible exact H2_) | (have H2_ := (Option.bind_some _ _).symm.trans H; with_reducible exact H2_) | with_reducible exact H | (rw [hy233]; exact H) | exact H
                    have Ny233 := Aside0.mk hy233
                    clear hy233
                    replace H := Option.bind_eq_some_iff.mp H
                    obtain ⟨t236, A300, H⟩ := H
                    replace H : (if y233.length + t236.length < 140737488355328 then (if x5_20.length < 5864062014805 then ((some (x5_20 ++ [(y233 ++ t236)] : List (List Int))).bind fun y242 => ((some (([255, 3] : List Int) : List Int)).bind fun y245 => ((marlineref09_Put.f a1 false).bind fun t248 => (if y245.length + t248.length < 140737488355328 then (if y242.length < 5864062014805 then (some (y242 ++ [(y245 ++ t248)])) else (none)) else (none))))) else (none)) else (none)) = some r := H
                    have A30 := Aside0.mk A300
                    clear A300
                    by_cases c31 : y233.length + t236.length < 140737488355328
                    · rw [if_pos c31] at H
                      have LMc31 := Aside0.mk c31
                      clear c31
                      obtain ⟨y239, hy239⟩ : ∃ y_ : List Int, y_ = (y233 ++ t236) := ⟨_, rfl⟩
                      replace H : (if x5_20.length < 5864062014805 then ((some (x5_20 ++ [y239] : List (List Int))).bind fun y242 => ((some (([255, 3] : List Int) : List Int)).bind fun y245 => ((marlineref09_Put.f a1 false).bind fun t248 => (if y245.length + t248.length < 140737488355328 then (if y242.length < 5864062014805 then (some (y242 ++ [(y245 ++ t248)])) else (none)) else (none))))) else (none)) = some r := by first | (rw [hy239]; with_reducible exact H) | (have H2_ := (Option.bind_some _ _).symm.trans H; rw [hy239]; with_reducible exact H2_) | (have H2_ := (Option.bind_some _ _).symm.trans H; with_reducible exact H2_) | with_reducible exact H | (rw [hy239]; exact H) | exact H
                      have Ny239 := Aside0.mk hy239
                      clear hy239
                      by_cases c32 : x5_20.length < 5864062014805
                      · rw [if_pos c32] at H
                        have LMc32 := Aside0.mk c32
                        clear c32
                        obtain ⟨y242, hy242⟩ : ∃ y_ : List (List Int), y_ = (x5_20 ++ [y239]) := ⟨_, rfl⟩
                        replace H : ((some (([255, 3] : List Int) : List Int)).bind fun y245 => ((marlineref09_Put.f a1 false).bind fun t248 => (if y245.length + t248.length < 140737488355328 then (if y242.length < 5864062014805 then (some (y242 ++ [(y245 ++ t248)])) else (none)) else (none)))) = some r := by first | (rw [hy242]; with_reducible exact H) | (have H2_ := (Option.bind_some _ _).symm.trans H; rw [hy242]; with_reducible exact H2_) | (have H2_ := (Option.bind_some _ _).symm.trans H; with_reducible exact H2_) | with_reducible exact H | (rw [hy242]; exact H) | exact H
                        have Ny242 := Aside0.mk hy242
                        clear hy242
                        obtain ⟨y245, hy245⟩ : ∃ y_ : List Int, y_ = (([255, 3] : List Int)) := ⟨_, rfl⟩
                        replace H : ((marlineref09_Put.f a1 false).bind fun t248 => (if y245.length + t248.length < 140737488355328 then (if y242.length < 5864062014805 then (some (y242 ++ [(y245 ++ t248)])) else (none)) else (none))) = some r := by first | (rw [hy245]; with_reducible exact H) | (have H2_ := (Option.bind_some _ _).symm.trans H; rw [hy245]; with_reducible exact H2_) | (have H2_ := (Option.bind_some _ _).symm.trans H; with_reducible exact H2_) | with_reducible exact H | (rw [hy245]; exact H) | exact H
                        have Ny245 := Aside0.mk hy245
                        clear hy245
                        replace H := Option.bind_eq_some_iff.mp H
                        obtain ⟨t248, A330, H⟩ := H
                        replace H : (if y245.length + t248.length < 140737488355328 then (if y242.length < 5864062014805 then (some (y242 ++ [(y245 ++ t248)])) else (none)) else (none)) = some r := H
                        have A33 := Aside0.mk A330
                        clear A330
                        by_cases c34 : y245.length + t248.length < 140737488355328
                        · rw [if_pos c34] at H
                          have LMc34 := Aside0.mk c34
                          clear c34
                          obtain ⟨y251, hy251⟩ : ∃ y_ : List Int, y_ = (y245 ++ t248) := ⟨_, rfl⟩
                          replace H : (if y242.length < 5864062014805 then (some (y242 ++ [y251])) else (none)) = some r := by first | (rw [hy251]; with_reducible exact H) | (have H2_ := (Option.bind_some _ _).symm.trans H; rw [hy251]; with_reducible exact H2_) | (have H2_ := (Option.bind_some _ _).symm.trans H; with_reducible exact H2_) | with_reducible exact H | (rw [hy251]; exact H) | exact H
                          have Ny251 := Aside0.mk hy251
                          clear hy251
                          by_cases c35 : y242.length < 5864062014805
                          · rw [if_pos c35] at H
                            have LMc35 := Aside0.mk c35
                            clear c35
                            obtain ⟨y254, hy254⟩ : ∃ y_ : List (List Int), y_ = (y242 ++ [y251]) := ⟨_, rfl⟩
                            replace H : (some y254) = some r := by first | (rw [hy254]; with_reducible exact H) | (have H2_ := (Option.bind_some _ _).symm.trans H; rw [hy254]; with_reducible exact H2_) | (have H2_ := (Option.bind_some _ _).symm.trans H; with_reducible exact H2_) | with_reducible exact H | (rw [hy254]; exact H) | exact H
                            have Ny254 := Aside0.mk hy254
                            clear hy254
                            obtain rfl := Option.some.inj H
                            go_wp2_with (first | ((with_reducible refine gate_dst (N := 33) rfl ?_); refine Kd.R_lit (Kd.int .u8) _ 5 ?hg (N := 33) ?hd (xs := ([255, 3] : List Int)) (inner := [.int .u8 255, .int .u8 3]) (ok := fun _ => True) (okp := fun _ => True) ?hr ?hp (fun _ hk => hk) trivial (Below.refl _ _) (Nat.le_refl _) (by simp) ?_; (case hd => rfl); (case hg => rfl); (case hr => first | (go_simp; done) | (go_simp; rfl)); (case hp => exact (Reps.one (show Kd.M (Kd.int .u8) _ _ _ 255 [.int .u8 255] from rfl) (Reps.one (show Kd.M (Kd.int .u8) _ _ _ 3 [.int .u8 3] from rfl) (Reps.none _ _)))); intro v234 w36 ho37 hb hg_ hnew_; clear hg_ hnew_; (first | rw [← Ny233.out] at ho37 | (simp only [Int.reduceToNat] at ho37; rw [← Ny233.out] at ho37)); have n0_ := Aside0.mk (Kd.S_elder' (by (with_reducible repeat (first | apply Kd.S_alloc | apply Kd.S_drewN | apply Kd.S_drew)); exact HO_5.out) (Kd.R_base ho37) hb); have n1_ := Aside0.mk (Kd.R_lower ho37 (below_size (by repeat (first | (with_reducible first | exact HB.out | apply below_alloc | apply pw_below_drewN | apply below_drew1 | refine below_set ?_ GE217.out) | exact HB.out)))); have n2_ := Aside0.mk (blk_below (g := gb217) (o := .cells #[.bool a0_0, .bool a0_1, .bool a0_2, .bool a0_3, .int .u32 a0_4, .int .u32 a0_5, .int .i64 a0_6] 24 (0, 0)) (by (with_reducible repeat (first | refine blk_drewN ?_ _ | refine blk_drew ?_ | refine blk_alloc ?_ _)); exact BK217.out) hb); have n3_ := Aside0.mk (below_step (by repeat (first | (with_reducible first | exact HB.out | apply below_alloc | apply pw_below_drewN | apply below_drew1 | refine below_set ?_ GE217.out) | exact HB.out)) hb); clear HO_5; clear BK217; clear HB; have HO_5 := n0_; have HO235 := n1_; have BK217 := n2_; have HB := n3_; clear n0_ n1_ n2_ n3_; clear hb ho37) | ((with_reducible refine gate_callee (f := 61) rfl ?_); refine goesL_ (some 35) rfl rfl Tryd.func61 (by kernel_rfl) rfl #[.int .i64 a1, .bool true] rfl (by (try simp only [List.map_toArray, List.map_cons, List.map_nil]); first | done | rfl | (simp only [List.length_drop, List.length_take]; rfl)) ?_; (with_reducible refine (marlineref09_Put.calls a1 true t236 _ A30.out).mono ?_); rintro e w38 ⟨v237, rfl, ho0, hb⟩; refine ⟨_, rfl, ?_⟩; have n0_ := Aside0.mk (Kd.S_elder' (by (with_reducible repeat (first | apply Kd.S_alloc | apply Kd.S_drewN | apply Kd.S_drew)); exact HO_5.out) (Kd.R_base ho0) hb); have n1_ := Aside0.mk (Kd.R_elder' (by (with_reducible repeat (first | apply Kd.R_alloc | apply Kd.R_drewN | apply Kd.R_drew)); exact HO235.out) (Kd.R_base ho0) hb); have n2_ := Aside0.mk (Kd.R_lower (Kd.R_new' ho0 (Kd.R_lt (by (with_reducible repeat (first | apply Kd.R_alloc | apply Kd.R_drewN | apply Kd.R_drew)); exact HO235.out))) (below_size (by repeat (first | (with_reducible first | exact HB.out | apply below_alloc | apply pw_below_drewN | apply below_drew1 | refine below_set ?_ GE217.out) | exact HB.out)))); have n3_ := Aside0.mk (blk_below (g := gb217) (o := .cells #[.bool a0_0, .bool a0_1, .bool a0_2, .bool a0_3, .int .u32 a0_4, .int .u32 a0_5, .int .i64 a0_6] 24 (0, 0)) (by (with_reducible repeat (first | refine blk_drewN ?_ _ | refine blk_drew ?_ | refine blk_alloc ?_ _)); exact BK217.out) hb); have n4_ := Aside0.mk (below_step (by repeat (first | (with_reducible first | exact HB.out | apply below_alloc | apply pw_below_drewN | apply below_drew1 | refine below_set ?_ GE217.out) | exact HB.out)) hb); clear HO_5; clear HO235; clear BK217; clear HB; have HO_5 := n0_; have HO235 := n1_; have HO238 := n2_; have BK217 := n3_; have HB := n4_; clear n0_ n1_ n2_ n3_ n4_; (try clear hb); (try clear hb2); (try clear hk); (try clear hi); (try clear ho0); obtain ⟨Ao40, co40, eo40⟩ := Kd.R_slice HO238.out; subst eo40) | ((with_reducible refine gate_builtin (b := .append) (xs := #[.tmp 33, .tmp 35]) rfl ?_); at_builtin; refine Kd.R_append_rows (Kd.int .u8) (w0 := w) w.heap.size rfl (.tmp 33) (.tmp 35) 35 5 (.int .u8 0) 1 rfl Tryd.underlying35 info5 rfl (by decide) (by omega) v234 y233 t236 _ _ _ (fun k_ => some k_ ≠ (.slice Ao40 t236.length co40 : Value).ownBlock) (fun _ => False) rfl rfl ?aO ?aR (fun _ _ h => h) (fun _ h => h.elim) ?aF ?aB ?aS ?aL ?_; (case aR => repeat (first | exact (Kd.R_reads' HO238.out).2.2 | (with_reducible refine Kd.C_alloc ?_ _) | (with_reducible refine Kd.C_drewN ?_ _) | (with_reducible refine Kd.C_drew ?_))); (case aB => exact (by repeat (first | (with_reducible first | exact HB.out | apply below_alloc | apply pw_below_drewN | apply below_drew1 | refine below_set ?_ GE217.out) | exact HB.out))); (case aF => exact (fun k_ hk => Kd.fresh' (Kd.R_lt (by (with_reducible repeat (first | apply Kd.R_alloc | apply Kd.R_drewN | apply Kd.R_drew)); exact HO238.out)) k_ hk)); (case aO => exact (by (with_reducible repeat (first | apply Kd.R_alloc | apply Kd.R_drewN | apply Kd.R_drew)); exact Kd.R_mono HO235.out (fun _ hk => hk.2))); (case aS => exact (below_size (by repeat (first | (with_reducible first | exact HB.out | apply below_alloc | apply pw_below_drewN | apply below_drew1 | refine below_set ?_ GE217.out) | exact HB.out)))); (case aL => have := LMc31.out; omega); intro v240 w39 ho hb hg hat; rw [← Ny239.out] at ho; have n0_ := Aside0.mk (Kd.S_after (ok := (fun k_ => some k_ ≠ (.slice Ao40 t236.length co40 : Value).ownBlock)) (by (with_reducible repeat (first | apply Kd.S_alloc | apply Kd.S_drewN | apply Kd.S_drew)); exact Kd.S_mono HO_5.out (fun _ hk => ⟨hk.2, hk.1.2⟩)) hg hat); have n1_ := Aside0.mk (blk_grown (g := gb217) (o := .cells #[.bool a0_0, .bool a0_1, .bool a0_2, .bool a0_3, .int .u32 a0_4, .int .u32 a0_5, .int .i64 a0_6] 24 (0, 0)) (by (with_reducible repeat (first | refine blk_drewN ?_ _ | refine blk_drew ?_ | refine blk_alloc ?_ _)); exact BK217.out) hg (Kd.R_ne HO235.out BK217.out (by decide))); have n2_ := Aside0.mk (Kd.R_after (ok := (fun _ => True)) (by (with_reducible repeat (first | apply Kd.R_alloc | apply Kd.R_drewN | apply Kd.R_drew)); exact HO238.out) hg hat); have n3_ := Aside0.mk (hb); have n4_ := Aside0.mk (ho); clear HO_5; clear BK217; clear HO238; clear HB; clear HO235; have HO_5 := n0_; have BK217 := n1_; have HO238 := n2_; have HB := n3_; have HO241 := n4_; clear n0_ n1_ n2_ n3_ n4_; clear ho hb hg hat; obtain ⟨Ao42, co42, eo42⟩ := Kd.R_slice HO241.out; subst eo42) | ((with_reducible refine gate_builtin (b := .append) (xs := #[.tmp 32, .tmp 37]) rfl ?_); at_builtin; refine Kd.S_append (Kd.slice 5 (Kd.int .u8)) (w0 := w) w.heap.size rfl (.tmp 32) (.tmp 37) 47 35 (.slice none 0 0) 24 rfl Tryd.underlying47 info35 rfl (by decide) (by omega) u5 x5_20 y239 [.slice Ao42 y239.length co42] (fun k_ => some k_ ≠ (.slice Ao40 t236.length co40 : Value).ownBlock) (fun k_ => some k_ = (.slice Ao42 y239.length co42 : Value).ownBlock) rfl rfl ?aP (fun k_ hk_ => ((Kd.R_mono (ok' := fun k_ => ((fun k_ => some k_ ≠ (.slice Ao40 t236.length co40 : Value).ownBlock)) k_ ∧ some k_ ≠ (u5 : Value).ownBlock) (Kd.R_apart' (HO241.out) (Kd.S_typed HO_5.out) (by decide)) (fun k_ hk => ⟨hk.1, hk.2⟩))).1 k_ hk_.symm) ?aF ?aO ?aB ?aS ?aL ?_; (case aP => exact Kd.M_row (Kd.R_mono (Kd.R_tight rfl (Kd.R_mono (ok' := fun k_ => ((fun k_ => some k_ ≠ (.slice Ao40 t236.length co40 : Value).ownBlock)) k_ ∧ some k_ ≠ (u5 : Value).ownBlock) (Kd.R_apart' (HO241.out) (Kd.S_typed HO_5.out) (by decide)) (fun k_ hk => ⟨hk.1, hk.2⟩))) (fun _ h_ => h_))); (case aB => exact (by repeat (first | (with_reducible first | exact HB.out | apply below_alloc | apply pw_below_drewN | apply below_drew1 | refine below_set ?_ GE217.out) | exact HB.out))); (case aF => exact (fun k_ hk => Kd.fresh' (Kd.R_lt (by (with_reducible repeat (first | apply Kd.R_alloc | apply Kd.R_drewN | apply Kd.R_drew)); exact HO238.out)) k_ hk)); (case aO => exact (by (with_reducible repeat (first | apply Kd.S_alloc | apply Kd.S_drewN | apply Kd.S_drew)); exact Kd.S_mono HO_5.out (fun k_ hk => ⟨hk.1, fun e_ => hk.2 e_⟩))); (case aS => exact (below_size (by repeat (first | (with_reducible first | exact HB.out | apply below_alloc | apply pw_below_drewN | apply below_drew1 | refine below_set ?_ GE217.out) | exact HB.out)))); (case aL => have := LMc32.out; omega); intro v243 w41 ho hb hg hat; rw [← Ny242.out] at ho; have n0_ := Aside0.mk (blk_grown (g := gb217) (o := .cells #[.bool a0_0, .bool a0_1, .bool a0_2, .bool a0_3, .int .u32 a0_4, .int .u32 a0_5, .int .i64 a0_6] 24 (0, 0)) (by (with_reducible repeat (first | refine blk_drewN ?_ _ | refine blk_drew ?_ | refine blk_alloc ?_ _)); exact BK217.out) hg (Kd.S_ne HO_5.out BK217.out (by decide))); have n1_ := Aside0.mk (Kd.R_over' (by (with_reducible repeat (first | apply Kd.R_alloc | apply Kd.R_drewN | apply Kd.R_drew)); exact HO238.out) (Kd.S_typed (by (with_reducible repeat (first | apply Kd.S_alloc | apply Kd.S_drewN | apply Kd.S_drew)); exact HO_5.out)) (by decide) hg); have n2_ := Aside0.mk (hb); have n3_ := Aside0.mk (ho); clear BK217; clear HO238; clear HB; clear HO_5; clear HO241; have BK217 := n0_; have HO238 := n1_; have HB := n2_; have HO244 := n3_; clear n0_ n1_ n2_ n3_; clear ho hb hg hat) | ((with_reducible refine gate_dst (N := 40) rfl ?_); refine Kd.R_lit (Kd.int .u8) _ 5 ?hg (N := 40) ?hd (xs := ([255, 3] : List Int)) (inner := [.int .u8 255, .int .u8 3]) (ok := fun _ => True) (okp := fun _ => True) ?hr ?hp (fun _ hk => hk) trivial (Below.refl _ _) (Nat.le_refl _) (by simp) ?_; (case hd => rfl); (case hg => rfl); (case hr => first | (go_simp; done) | (go_simp; rfl)); (case hp => exact (Reps.one (show Kd.M (Kd.int .u8) _ _ _ 255 [.int .u8 255] from rfl) (Reps.one (show Kd.M (Kd.int .u8) _ _ _ 3 [.int .u8 3] from rfl) (Reps.none _ _)))); intro v246 w43 ho44 hb hg_ hnew_; clear hg_ hnew_; (first | rw [← Ny245.out] at ho44 | (simp only [Int.reduceToNat] at ho44; rw [← Ny245.out] at ho44)); have n0_ := Aside0.mk (Kd.R_elder' (by (with_reducible repeat (first | apply Kd.R_alloc | apply Kd.R_drewN | apply Kd.R_drew)); exact HO238.out) (Kd.R_base ho44) hb); have n1_ := Aside0.mk (Kd.S_elder' (by (with_reducible repeat (first | apply Kd.S_alloc | apply Kd.S_drewN | apply Kd.S_drew)); exact HO244.out) (Kd.R_base ho44) hb); have n2_ := Aside0.mk (Kd.R_lower (Kd.R_new' ho44 (Kd.R_lt (by (with_reducible repeat (first | apply Kd.R_alloc | apply Kd.R_drewN | apply Kd.R_drew)); exact HO238.out))) (below_size (by repeat (first | (with_reducible first | exact HB.out | apply below_alloc | apply pw_below_drewN | apply below_drew1 | refine below_set ?_ GE217.out) | exact HB.out)))); have n3_ := Aside0.mk (blk_below (g := gb217) (o := .cells #[.bool a0_0, .bool a0_1, .bool a0_2, .bool a0_3, .int .u32 a0_4, .int .u32 a0_5, .int .i64 a0_6] 24 (0, 0)) (by (with_reducible repeat (first | refine blk_drewN ?_ _ | refine blk_drew ?_ | refine blk_alloc ?_ _)); exact BK217.out) hb); have n4_ := Aside0.mk (below_step (by repeat (first | (with_reducible first | exact HB.out | apply below_alloc | apply pw_below_drewN | apply below_drew1 | refine below_set ?_ GE217.out) | exact HB.out)) hb); clear HO238; clear HO244; clear BK217; clear HB; have HO238 := n0_; have HO244 := n1_; have HO247 := n2_; have BK217 := n3_; have HB := n4_; clear n0_ n1_ n2_ n3_ n4_; clear hb ho44) | ((with_reducible refine gate_callee (f := 61) rfl ?_); refine goesL_ (some 42) rfl rfl Tryd.func61 (by kernel_rfl) rfl #[.int .i64 a1, .bool false] rfl (by (try simp only [List.map_toArray, List.map_cons, List.map_nil]); first | done | rfl | (simp only [List.length_drop, List.length_take]; rfl)) ?_; (with_reducible refine (marlineref09_Put.calls a1 false t248 _ A33.out).mono ?_); rintro e w45 ⟨v249, rfl, ho0, hb⟩; refine ⟨_, rfl, ?_⟩; have n0_ := Aside0.mk (Kd.R_elder' (by (with_reducible repeat (first | apply Kd.R_alloc | apply Kd.R_drewN | apply Kd.R_drew)); exact HO238.out) (Kd.R_base ho0) hb); have n1_ := Aside0.mk (Kd.S_elder' (by (with_reducible repeat (first | apply Kd.S_alloc | apply Kd.S_drewN | apply Kd.S_drew)); exact HO244.out) (Kd.R_base ho0) hb); have n2_ := Aside0.mk (Kd.R_elder' (by (with_reducible repeat (first | apply Kd.R_alloc | apply Kd.R_drewN | apply Kd.R_drew)); exact HO247.out) (Kd.R_base ho0) hb); have n3_ := Aside0.mk (Kd.R_lower (Kd.R_new' (Kd.R_new' ho0 (Kd.R_lt (by (with_reducible repeat (first | apply Kd.R_alloc | apply Kd.R_drewN | apply Kd.R_drew)); exact HO238.out))) (Kd.R_lt (by (with_reducible repeat (first | apply Kd.R_alloc | apply Kd.R_drewN | apply Kd.R_drew)); exact HO247.out))) (below_size (by repeat (first | (with_reducible first | exact HB.out | apply below_alloc | apply pw_below_drewN | apply below_drew1 | refine below_set ?_ GE217.out) | exact HB.out)))); have n4_ := Aside0.mk (blk_below (g := gb217) (o := .cells #[.bool a0_0, .bool a0_1, .bool a0_2, .bool a0_3, .int .u32 a0_4, .int .u32 a0_5, .int .i64 a0_6] 24 (0, 0)) (by (with_reducible repeat (first | refine blk_drewN ?_ _ | refine blk_drew ?_ | refine blk_alloc ?_ _)); exact BK217.out) hb); have n5_ := Aside0.mk (below_step (by repeat (first | (with_reducible first | exact HB.out | apply below_alloc | apply pw_below_drewN | apply below_drew1 | refine below_set ?_ GE217.out) | exact HB.out)) hb); clear HO238; clear HO244; clear HO247; clear BK217; clear HB; have HO238 := n0_; have HO244 := n1_; have HO247 := n2_; have HO250 := n3_; have BK217 := n4_; have HB := n5_; clear n0_ n1_ n2_ n3_ n4_ n5_; (try clear hb); (try clear hb2); (try clear hk); (try clear hi); (try clear ho0); obtain ⟨Ao47, co47, eo47⟩ := Kd.R_slice HO250.out; subst eo47) | ((with_reducible refine gate_builtin (b := .append) (xs := #[.tmp 40, .tmp 42]) rfl ?_); at_builtin; refine Kd.R_append_rows (Kd.int .u8) (w0 := w) w.heap.size rfl (.tmp 40) (.tmp 42) 35 5 (.int .u8 0) 1 rfl Tryd.underlying35 info5 rfl (by decide) (by omega) v246 y245 t248 _ _ _ (fun k_ => some k_ ≠ (.slice Ao40 t236.length co40 : Value).ownBlock ∧ some k_ ≠ (.slice Ao47 t248.length co47 : Value).ownBlock) (fun _ => False) rfl rfl ?aO ?aR (fun _ _ h => h) (fun _ h => h.elim) ?aF ?aB ?aS ?aL ?_; (case aR => repeat (first | exact (Kd.R_reads' HO250.out).2.2 | (with_reducible refine Kd.C_alloc ?_ _) | (with_reducible refine Kd.C_drewN ?_ _) | (with_reducible refine Kd.C_drew ?_))); (case aB => exact (by repeat (first | (with_reducible first | exact HB.out | apply below_alloc | apply pw_below_drewN | apply below_drew1 | refine below_set ?_ GE217.out) | exact HB.out))); (case aF => exact (fun k_ hk => ⟨Kd.fresh' (Kd.R_lt (by (with_reducible repeat (first | apply Kd.R_alloc | apply Kd.R_drewN | apply Kd.R_drew)); exact HO238.out)) k_ hk, Kd.fresh' (Kd.R_lt (by (with_reducible repeat (first | apply Kd.R_alloc | apply Kd.R_drewN | apply Kd.R_drew)); exact HO250.out)) k_ hk⟩)); (case aO => exact (by (with_reducible repeat (first | apply Kd.R_alloc | apply Kd.R_drewN | apply Kd.R_drew)); exact Kd.R_mono HO247.out (fun _ hk => ⟨hk.1.2, hk.2⟩))); (case aS => exact (below_size (by repeat (first | (with_reducible first | exact HB.out | apply below_alloc | apply pw_below_drewN | apply below_drew1 | refine below_set ?_ GE217.out) | exact HB.out)))); (case aL => have := LMc34.out; omega); intro v252 w46 ho hb hg hat; rw [← Ny251.out] at ho; have n0_ := Aside0.mk (blk_grown (g := gb217) (o := .cells #[.bool a0_0, .bool a0_1, .bool a0_2, .bool a0_3, .int .u32 a0_4, .int .u32 a0_5, .int .i64 a0_6] 24 (0, 0)) (by (with_reducible repeat (first | refine blk_drewN ?_ _ | refine blk_drew ?_ | refine blk_alloc ?_ _)); exact BK217.out) hg (Kd.R_ne HO247.out BK217.out (by decide))); have n1_ := Aside0.mk (Kd.R_after (ok := (fun k_ => some k_ ≠ (.slice Ao47 t248.length co47 : Value).ownBlock)) (by (with_reducible repeat (first | apply Kd.R_alloc | apply Kd.R_drewN | apply Kd.R_drew)); exact Kd.R_mono HO238.out (fun _ hk => ⟨hk.2, hk.1.2⟩)) hg hat); have n2_ := Aside0.mk (Kd.S_after (ok := (fun k_ => some k_ ≠ (.slice Ao40 t236.length co40 : Value).ownBlock ∧ some k_ ≠ (.slice Ao47 t248.length co47 : Value).ownBlock)) (by (with_reducible repeat (first | apply Kd.S_alloc | apply Kd.S_drewN | apply Kd.S_drew)); exact Kd.S_mono HO244.out (fun _ hk => ⟨⟨hk.1.1, hk.2⟩, hk.1.2⟩)) hg hat); have n3_ := Aside0.mk (Kd.R_after (ok := (fun k_ => some k_ ≠ (.slice Ao40 t236.length co40 : Value).ownBlock)) (by (with_reducible repeat (first | apply Kd.R_alloc | apply Kd.R_drewN | apply Kd.R_drew)); exact Kd.R_mono HO250.out (fun _ hk => ⟨hk.1.2, hk.2⟩)) hg hat); have n4_ := Aside0.mk (hb); have n5_ := Aside0.mk (ho); clear BK217; clear HO238; clear HO244; clear HO250; clear HB; clear HO247; have BK217 := n0_; have HO238 := n1_; have HO244 := n2_; have HO250 := n3_; have HB := n4_; have HO253 := n5_; clear n0_ n1_ n2_ n3_ n4_ n5_; clear ho hb hg hat; obtain ⟨Ao49, co49, eo49⟩ := Kd.R_slice HO253.out; subst eo49) | ((with_reducible refine gate_builtin (b := .append) (xs := #[.tmp 39, .tmp 44]) rfl ?_); at_builtin; refine Kd.S_append (Kd.slice 5 (Kd.int .u8)) (w0 := w) w.heap.size rfl (.tmp 39) (.tmp 44) 47 35 (.slice none 0 0) 24 rfl Tryd.underlying47 info35 rfl (by decide) (by omega) v243 y242 y251 [.slice Ao49 y251.length co49] (fun k_ => some k_ ≠ (.slice Ao40 t236.length co40 : Value).ownBlock ∧ some k_ ≠ (.slice Ao47 t248.length co47 : Value).ownBlock) (fun k_ => some k_ = (.slice Ao49 y251.length co49 : Value).ownBlock) rfl rfl ?aP (fun k_ hk_ => ((Kd.R_mono (ok' := fun k_ => ((fun k_ => some k_ ≠ (.slice Ao40 t236.length co40 : Value).ownBlock ∧ some k_ ≠ (.slice Ao47 t248.length co47 : Value).ownBlock)) k_ ∧ some k_ ≠ (v243 : Value).ownBlock) (Kd.R_apart' (HO253.out) (Kd.S_typed HO244.out) (by decide)) (fun k_ hk => ⟨⟨hk.1.1, hk.1.2⟩, hk.2⟩))).1 k_ hk_.symm) ?aF ?aO ?aB ?aS ?aL ?_; (case aP => exact Kd.M_row (Kd.R_mono (Kd.R_tight rfl (Kd.R_mono (ok' := fun k_ => ((fun k_ => some k_ ≠ (.slice Ao40 t236.length co40 : Value).ownBlock ∧ some k_ ≠ (.slice Ao47 t248.length co47 : Value).ownBlock)) k_ ∧ some k_ ≠ (v243 : Value).ownBlock) (Kd.R_apart' (HO253.out) (Kd.S_typed HO244.out) (by decide)) (fun k_ hk => ⟨⟨hk.1.1, hk.1.2⟩, hk.2⟩))) (fun _ h_ => h_))); (case aB => exact (by repeat (first | (with_reducible first | exact HB.out | apply below_alloc | apply pw_below_drewN | apply below_drew1 | refine below_set ?_ GE217.out) | exact HB.out))); (case aF => exact (fun k_ hk => ⟨Kd.fresh' (Kd.R_lt (by (with_reducible repeat (first | apply Kd.R_alloc | apply Kd.R_drewN | apply Kd.R_drew)); exact HO238.out)) k_ hk, Kd.fresh' (Kd.R_lt (by (with_reducible repeat (first | apply Kd.R_alloc | apply Kd.R_drewN | apply Kd.R_drew)); exact HO250.out)) k_ hk⟩)); (case aO => exact (by (with_reducible repeat (first | apply Kd.S_alloc | apply Kd.S_drewN | apply Kd.S_drew)); exact Kd.S_mono HO244.out (fun k_ hk => ⟨⟨hk.1.1, hk.1.2⟩, fun e_ => hk.2 e_⟩))); (case aS => exact (below_size (by repeat (first | (with_reducible first | exact HB.out | apply below_alloc | apply pw_below_drewN | apply below_drew1 | refine below_set ?_ GE217.out) | exact HB.out)))); (case aL => have := LMc35.out; omega); intro v255 w48 ho hb hg hat; rw [← Ny254.out] at ho; have n0_ := Aside0.mk (blk_grown (g := gb217) (o := .cells #[.bool a0_0, .bool a0_1, .bool a0_2, .bool a0_3, .int .u32 a0_4, .int .u32 a0_5, .int .i64 a0_6] 24 (0, 0)) (by (with_reducible repeat (first | refine blk_drewN ?_ _ | refine blk_drew ?_ | refine blk_alloc ?_ _)); exact BK217.out) hg (Kd.S_ne HO244.out BK217.out (by decide))); have n1_ := Aside0.mk (Kd.R_over' (by (with_reducible repeat (first | apply Kd.R_alloc | apply Kd.R_drewN | apply Kd.R_drew)); exact HO238.out) (Kd.S_typed (by (with_reducible repeat (first | apply Kd.S_alloc | apply Kd.S_drewN | apply Kd.S_drew)); exact HO244.out)) (by decide) hg); have n2_ := Aside0.mk (Kd.R_over' (by (with_reducible repeat (first | apply Kd.R_alloc | apply Kd.R_drewN | apply Kd.R_drew)); exact HO250.out) (Kd.S_typed (by (with_reducible repeat (first | apply Kd.S_alloc | apply Kd.S_drewN | apply Kd.S_drew)); exact HO244.out)) (by decide) hg); have n3_ := Aside0.mk (hb); have n4_ := Aside0.mk (ho); clear BK217; clear HO238; clear HO250; clear HB; clear HO244; clear HO253; have BK217 := n0_; have HO238 := n1_; have HO250 := n2_; have HB := n3_; have HO256 := n4_; clear n0_ n1_ n2_ n3_ n4_; clear ho hb hg hat))
                            go_ret
                            exact ⟨_, by first | rfl | (simp [errW_none, errW_some] <;> rfl) | (simp [*, errW_none, errW_some] <;> rfl), by (with_reducible repeat (first | apply Kd.S_alloc | apply Kd.S_drewN | apply Kd.S_drew)); exact Kd.S_mono HO256.out (fun _ hk => trivial), by repeat (first | (with_reducible first | exact HB.out | apply below_alloc | apply pw_below_drewN | apply below_drew1 | refine below_set ?_ GE217.out) | exact HB.out)⟩
                          · rw [if_neg c35] at H
                            exact absurd H (by simp)
                        · rw [if_neg c34] at H
                          exact absurd H (by simp)
                      · rw [if_neg c32] at H
                        exact absurd H (by simp)
                    · rw [if_neg c31] at H
                      exact absurd H (by simp)
                  · replace c29 := Bool.eq_false_iff.mpr c29
                    subst c29
                    have H1 : ((some (([255, 3] : List Int) : List Int)).bind fun y257 => ((marlineref09_Put.f a1 false).bind fun t260 => (if y257.length + t260.length < 140737488355328 then (if x5_20.length < 5864062014805 then (some (x5_20 ++ [(y257 ++ t260)])) else (none)) else (none)))) = some r := by rw [if_neg (show ¬ (false = true) by decide)] at H; exact H
                    clear H
                    have H := H1
                    clear H1
                    obtain ⟨y257, hy257⟩ : ∃ y_ : List Int, y_ = (([255, 3] : List Int)) := ⟨_, rfl⟩
                    replace H : ((marlineref09_Put.f a1 false).bind fun t260 => (if y257.length + t260.length < 140737488355328 then (if x5_20.length < 5864062014805 then (some (x5_20 ++ [(y257 ++ t260)])) else (none)) else (none))) = some r := by first | (rw [hy257]; with_reducible exact H) | (have H2_ := (Option.bind_some _ _).symm.trans H; rw [hy257]; with_reducible exact H2_) | (have H2_ := (Option.bind_some _ _).symm.trans H; with_reducible exact H2_) | with_reducible exact H | (rw [hy257]; exact H) | exact H
                    have Ny257 := Aside0.mk hy257
                    clear hy257
                    replace H := Option.bind_eq_some_iff.mp H
                    obtain ⟨t260, A500, H⟩ := H
                    replace H : (if y257.length + t260.length < 140737488355328 then (if x5_20.length < 5864062014805 then (some (x5_20 ++ [(y257 ++ t260)])) else (none)) else (none)) = some r := H
                    have A50 := Aside0.mk A500
                    clear A500
                    by_cases c51 : y257.length + t260.length < 140737488355328
                    · rw [if_pos c51] at H
                      have LMc51 := Aside0.mk c51
                      clear c51
                      obtain ⟨y263, hy263⟩ : ∃ y_ : List Int, y_ = (y257 ++ t260) := ⟨_, rfl⟩
                      replace H : (if x5_20.length < 5864062014805 then (some (x5_20 ++ [y263])) else (none)) = some r := by first | (rw [hy263]; with_reducible exact H) | (have H2_ := (Option.bind_some _ _).symm.trans H; rw [hy263]; with_reducible exact H2_) | (have H2_ := (Option.bind_some _ _).symm.trans H; with_reducible exact H2_) | with_reducible exact H | (rw [hy263]; exact H) | exact H
                      have Ny263 := Aside0.mk hy263
                      clear hy263
                      by_cases c52 : x5_20.length < 5864062014805
                      · rw [if_pos c52] at H
                        have LMc52 := Aside0.mk c52
                        clear c52
                        obtain ⟨y266, hy266⟩ : ∃ y_ : List (List Int), y_ = (x5_20 ++ [y263]) := ⟨_, rfl⟩
                        replace H : (some y266) = some r := by first | (rw [hy266]; with_reducible exact H) | (have H2_ := (Option.bind_some _ _).symm.trans H; rw [hy266]; with_reducible exact H2_) | (have H2_ := (Option.bind_some _ _).symm.trans H; with_reducible exact H2_) | with_reducible exact H | (rw [hy266]; exact H) | exact H
                        have Ny266 := Aside0.mk hy266
                        clear hy266
                        obtain rfl := Option.some.inj H
                        go_wp2_with (first | ((with_reducible refine gate_dst (N := 40) rfl ?_); refine Kd.R_lit (Kd.int .u8) _ 5 ?hg (N := 40) ?hd (xs := ([255, 3] : List Int)) (inner := [.int .u8 255, .int .u8 3]) (ok := fun _ => True) (okp := fun _ => True) ?hr ?hp (fun _ hk => hk) trivial (Below.refl _ _) (Nat.le_refl _) (by simp) ?_; (case hd => rfl); (case hg => rfl); (case hr => first | (go_simp; done) | (go_simp; rfl)); (case hp => exact (Reps.one (show Kd.M (Kd.int .u8) _ _ _ 255 [.int .u8 255] from rfl) (Reps.one (show Kd.M (Kd.int .u8) _ _ _ 3 [.int .u8 3] from rfl) (Reps.none _ _)))); intro v258 w53 ho54 hb hg_ hnew_; clear hg_ hnew_; (first | rw [← Ny257.out] at ho54 | (simp only [Int.reduceToNat] at ho54; rw [← Ny257.out] at ho54)); have n0_ := Aside0.mk (Kd.S_elder' (by (with_reducible repeat (first | apply Kd.S_alloc | apply Kd.S_drewN | apply Kd.S_drew)); exact HO_5.out) (Kd.R_base ho54) hb); have n1_ := Aside0.mk (Kd.R_lower ho54 (below_size (by repeat (first | (with_reducible first | exact HB.out | apply below_alloc | apply pw_below_drewN | apply below_drew1 | refine below_set ?_ GE217.out) | exact HB.out)))); have n2_ := Aside0.mk (blk_below (g := gb217) (o := .cells #[.bool a0_0, .bool a0_1, .bool a0_2, .bool a0_3, .int .u32 a0_4, .int .u32 a0_5, .int .i64 a0_6] 24 (0, 0)) (by (with_reducible repeat (first | refine blk_drewN ?_ _ | refine blk_drew ?_ | refine blk_alloc ?_ _)); exact BK217.out) hb); have n3_ := Aside0.mk (below_step (by repeat (first | (with_reducible first | exact HB.out | apply below_alloc | apply pw_below_drewN | apply below_drew1 | refine below_set ?_ GE217.out) | exact HB.out)) hb); clear HO_5; clear BK217; clear HB; have HO_5 := n0_; have HO259 := n1_; have BK217 := n2_; have HB := n3_; clear n0_ n1_ n2_ n3_; clear hb ho54) | ((with_reducible refine gate_callee (f := 61) rfl ?_); refine goesL_ (some 42) rfl rfl Tryd.func61 (by kernel_rfl) rfl #[.int .i64 a1, .bool false] rfl (by (try simp only [List.map_toArray, List.map_cons, List.map_nil]); first | done | rfl | (simp only [List.length_drop, List.length_take]; rfl)) ?_; (with_reducible refine (marlineref09_Put.calls a1 false t260 _ A50.out).mono ?_); rintro e w55 ⟨v261, rfl, ho0, hb⟩; refine ⟨_, rfl, ?_⟩; have n0_ := Aside0.mk (Kd.S_elder' (by (with_reducible repeat (first | apply Kd.S_alloc | apply Kd.S_drewN | apply Kd.S_drew)); exact HO_5.out) (Kd.R_base ho0) hb); have n1_ := Aside0.mk (Kd.R_elder' (by (with_reducible repeat (first | apply Kd.R_alloc | apply Kd.R_drewN | apply Kd.R_drew)); exact HO259.out) (Kd.R_base ho0) hb); have n2_ := Aside0.mk (Kd.R_lower (Kd.R_new' ho0 (Kd.R_lt (by (with_reducible repeat (first | apply Kd.R_alloc | apply Kd.R_drewN | apply Kd.R_drew)); exact HO259.out))) (below_size (by repeat (first | (with_reducible first | exact HB.out | apply below_alloc | apply pw_below_drewN | apply below_drew1 | refine below_set ?_ GE217.out) | exact HB.out)))); have n3_ := Aside0.mk (blk_below (g := gb217) (o := .cells #[.bool a0_0, .bool a0_1, .bool a0_2, .bool a0_3, .int .u32 a0_4, .int .u32 a0_5, .int .i64 a0_6] 24 (0, 0)) (by (with_reducible repeat (first | refine blk_drewN ?_ _ | refine blk_drew ?_ | refine blk_alloc ?_ _)); exact BK217.out) hb); have n4_ := Aside0.mk (below_step (by repeat (first | (with_reducible first | exact HB.out | apply below_alloc | apply pw_below_drewN | apply below_drew1 | refine below_set ?_ GE217.out) | exact HB.out)) hb); clear HO_5; clear HO259; clear BK217; clear HB; have HO_5 := n0_; have HO259 := n1_; have HO262 := n2_; have BK217 := n3_; have HB := n4_; clear n0_ n1_ n2_ n3_ n4_; (try clear hb); (try clear hb2); (try clear hk); (try clear hi); (try clear ho0); obtain ⟨Ao57, co57, eo57⟩ := Kd.R_slice HO262.out; subst eo57) | ((with_reducible refine gate_builtin (b := .append) (xs := #[.tmp 40, .tmp 42]) rfl ?_); at_builtin; refine Kd.R_append_rows (Kd.int .u8) (w0 := w) w.heap.size rfl (.tmp 40) (.tmp 42) 35 5 (.int .u8 0) 1 rfl Tryd.underlying35 info5 rfl (by decide) (by omega) v258 y257 t260 _ _ _ (fun k_ => some k_ ≠ (.slice Ao57 t260.length co57 : Value).ownBlock) (fun _ => False) rfl rfl ?aO ?aR (fun _ _ h => h) (fun _ h => h.elim) ?aF ?aB ?aS ?aL ?_; (case aR => repeat (first | exact (Kd.R_reads' HO262.out).2.2 | (with_reducible refine Kd.C_alloc ?_ _) | (with_reducible refine Kd.C_drewN ?_ _) | (with_reducible refine Kd.C_drew ?_))); (case aB => exact (by repeat (first | (with_reducible first | exact HB.out | apply below_alloc | apply pw_below_drewN | apply below_drew1 | refine below_set ?_ GE217.out) | exact HB.out))); (case aF => exact (fun k_ hk => Kd.fresh' (Kd.R_lt (by (with_reducible repeat (first | apply Kd.R_alloc | apply Kd.R_drewN | apply Kd.R_drew)); exact HO262.out)) k_ hk)); (case aO => exact (by (with_reducible repeat (first | apply Kd.R_alloc | apply Kd.R_drewN | apply Kd.R_drew)); exact Kd.R_mono HO259.out (fun _ hk => hk.2))); (case aS => exact (below_size (by repeat (first | (with_reducible first | exact HB.out | apply below_alloc | apply pw_below_drewN | apply below_drew1 | refine below_set ?_ GE217.out) | exact HB.out)))); (case aL => have := LMc51.out; omega); intro v264 w56 ho hb hg hat; rw [← Ny263.out] at ho; have n0_ := Aside0.mk (Kd.S_after (ok := (fun k_ => some k_ ≠ (.slice Ao57 t260.length co57 : Value).ownBlock)) (by (with_reducible repeat (first | apply Kd.S_alloc | apply Kd.S_drewN | apply Kd.S_drew)); exact Kd.S_mono HO_5.out (fun _ hk => ⟨hk.2, hk.1.2⟩)) hg hat); have n1_ := Aside0.mk (blk_grown (g := gb217) (o := .cells #[.bool a0_0, .bool a0_1, .bool a0_2, .bool a0_3, .int .u32 a0_4, .int .u32 a0_5, .int .i64 a0_6] 24 (0, 0)) (by (with_reducible repeat (first | refine blk_drewN ?_ _ | refine blk_drew ?_ | refine blk_alloc ?_ _)); exact BK217.out) hg (Kd.R_ne HO259.out BK217.out (by decide))); have n2_ := Aside0.mk (Kd.R_after (ok := (fun _ => True)) (by (with_reducible repeat (first | apply Kd.R_alloc | apply Kd.R_drewN | apply Kd.R_drew)); exact HO262.out) hg hat); have n3_ := Aside0.mk (hb); have n4_ := Aside0.mk (ho); clear HO_5; clear BK217; clear HO262; clear HB; clear HO259; have HO_5 := n0_; have BK217 := n1_; have HO262 := n2_; have HB := n3_; have HO265 := n4_; clear n0_ n1_ n2_ n3_ n4_; clear ho hb hg hat; obtain ⟨Ao59, co59, eo59⟩ := Kd.R_slice HO265.out; subst eo59) | ((with_reducible refine gate_builtin (b := .append) (xs := #[.tmp 39, .tmp 44]) rfl ?_); at_builtin; refine Kd.S_append (Kd.slice 5 (Kd.int .u8)) (w0 := w) w.heap.size rfl (.tmp 39) (.tmp 44) 47 35 (.slice none 0 0) 24 rfl Tryd.underlying47 info35 rfl (by decide) (by omega) u5 x5_20 y263 [.slice Ao59 y263.length co59] (fun k_ => some k_ ≠ (.slice Ao57 t260.length co57 : Value).ownBlock) (fun k_ => some k_ = (.slice Ao59 y263.length co59 : Value).ownBlock) rfl rfl ?aP (fun k_ hk_ => ((Kd.R_mono (ok' := fun k_ => ((fun k_ => some k_ ≠ (.slice Ao57 t260.length co57 : Value).ownBlock)) k_ ∧ some k_ ≠ (u5 : Value).ownBlock) (Kd.R_apart' (HO265.out) (Kd.S_typed HO_5.out) (by decide)) (fun k_ hk => ⟨hk.1, hk.2⟩))).1 k_ hk_.symm) ?aF ?aO ?aB ?aS ?aL ?_; (case aP => exact Kd.M_row (Kd.R_mono (Kd.R_tight rfl (Kd.R_mono (ok' := fun k_ => ((fun k_ => some k_ ≠ (.slice Ao57 t260.length co57 : Value).ownBlock)) k_ ∧ some k_ ≠ (u5 : Value).ownBlock) (Kd.R_apart' (HO265.out) (Kd.S_typed HO_5.out) (by decide)) (fun k_ hk => ⟨hk.1, hk.2⟩))) (fun _ h_ => h_))); (case aB => exact (by repeat (first | (with_reducible first | exact HB.out | apply below_alloc | apply pw_below_drewN | apply below_drew1 | refine below_set ?_ GE217.out) | exact HB.out))); (case aF => exact (fun k_ hk => Kd.fresh' (Kd.R_lt (by (with_reducible repeat (first | apply Kd.R_alloc | apply Kd.R_drewN | apply Kd.R_drew)); exact HO262.out)) k_ hk)); (case aO => exact (by (with_reducible repeat (first | apply Kd.S_alloc | apply Kd.S_drewN | apply Kd.S_drew)); exact Kd.S_mono HO_5.out (fun k_ hk => ⟨hk.1, fun e_ => hk.2 e_⟩))); (case aS => exact (below_size (by repeat (first | (with_reducible first | exact HB.out | apply below_alloc | apply pw_below_drewN | apply below_drew1 | refine below_set ?_ GE217.out) | exact HB.out)))); (case aL => have := LMc52.out; omega); intro v267 w58 ho hb hg hat; rw [← Ny266.out] at ho; have n0_ := Aside0.mk (blk_grown (g := gb217) (o := .cells #[.bool a0_0, .bool a0_1, .bool a0_2, .bool a0_3, .int .u32 a0_4, .int .u32 a0_5, .int .i64 a0_6] 24 (0, 0)) (by (with_reducible repeat (first | refine blk_drewN ?_ _ | refine blk_drew ?_ | refine blk_alloc ?_ _)); exact BK217.out) hg (Kd.S_ne HO_5.out BK217.out (by decide))); have n1_ := Aside0.mk (Kd.R_over' (by (with_reducible repeat (first | apply Kd.R_alloc | apply Kd.R_drewN | apply Kd.R_drew)); exact HO262.out) (Kd.S_typed (by (with_reducible repeat (first | apply Kd.S_alloc | apply Kd.S_drewN | apply Kd.S_drew)); exact HO_5.out)) (by decide) hg); have n2_ := Aside0.mk (hb); have n3_ := Aside0.mk (ho); clear BK217; clear HO262; clear HB; clear HO_5; clear HO265; have BK217 := n0_; have HO262 := n1_; have HB := n2_; have HO268 := n3_; clear n0_ n1_ n2_ n3_; clear ho hb hg hat))
                        go_ret
                        exact ⟨_, by first | rfl | (simp [errW_none, errW_some] <;> rfl) | (simp [*, errW_none, errW_some] <;> rfl), by (with_reducible repeat (first | apply Kd.S_alloc | apply Kd.S_drewN | apply Kd.S_drew)); exact Kd.S_mono HO268.out (fun _ hk => trivial), by repeat (first | (with_reducible first | exact HB.out | apply below_alloc | apply pw_below_drewN | apply below_drew1 | refine below_set ?_ GE217.out) | exact HB.out)⟩
                      · rw [if_neg c52] at H
                        exact absurd H (by simp)
                    · rw [if_neg c51] at H
                      exact absurd H (by simp)
end Go.Proofs.YtggpejjfgphihaaDoor.H
end

section
namespace Go.Proofs.YtggpejjfgphihaaDoor.Pu
open Go.Proofs.YtggpejjfgphihaaDoor.Given Go.Proofs.YtggpejjfgphihaaDoor.H Go.Proofs.YtggpejjfgphihaaDoor.D Go.RowKit Go.Proofs.YtggpejjfgphihaaDoorW.PrintWords
set_option linter.unusedVariables false
set_option linter.unusedSimpArgs false
theorem all_j3 (k p : Nat) (hp : p < 65536) (X : List (List Int)) (hX : X.length < 100) (b : Bool) :
    marlineref10_All.j3 (k + 1) (p : Int) X b = some (X ++ ((if b = true then [ofN (255 :: 3 :: numN p true)] else []) ++ [ofN (255 :: 3 :: numN p false)])) := by
  have p1 := r_Put p true hp
  have p0 := r_Put p false hp
  have l1 := numN_len p true
  have l0 := numN_len p false
  have e1 : ([255, 3] : List Int) ++ ofN (numN p true) = ofN (255 :: 3 :: numN p true) := rfl
  have e0 : ([255, 3] : List Int) ++ ofN (numN p false) = ofN (255 :: 3 :: numN p false) := rfl
  have g1 : ([255, 3] : List Int).length + (ofN (numN p true)).length < 140737488355328 := by rw [ofN_length]; simp; omega
  have g0 : ([255, 3] : List Int).length + (ofN (numN p false)).length < 140737488355328 := by rw [ofN_length]; simp; omega
  have x0 : X.length < 5864062014805 := by omega
  have x1 : (X ++ [ofN (255 :: 3 :: numN p true)]).length < 5864062014805 := by simp; omega
  simp only [marlineref10_All.j3]
  cases b
  · rw [if_neg (show ¬ (false = true) by decide), if_neg (show ¬ (false = true) by decide), p0]
    simp only [Option.bind_some]
    rw [if_pos g0, if_pos x0, e0]; simp
  · rw [if_pos rfl, if_pos rfl, p1, p0]
    simp only [Option.bind_some]
    rw [if_pos g1, if_pos x0, e1, if_pos g0, if_pos x1, e0]; simp
theorem all_j2 (k p : Nat) (hp : p < 65536) (X : List (List Int)) (hX : X.length < 90) (b : Bool) (a0 a1 a f : Bool) (x y z : Int) :
    marlineref10_All.j2 (k + 2) (p : Int) X b a0 a1 a f x y z = some (X ++ ((if a = true then [ofN (numN p false)] else []) ++ ((if b = true then [ofN (255 :: 3 :: numN p true)] else []) ++ [ofN (255 :: 3 :: numN p false)]))) := by
  have p0 := r_Put p false hp
  simp only [marlineref10_All.j2]
  rw [p0]
  simp only [Option.bind_some]
  rw [if_pos (show X.length < 5864062014805 by omega), all_j3 k p hp X (by omega) b, all_j3 k p hp (X ++ [ofN (numN p false)]) (by simp; omega) b]
  cases a
  · rw [if_neg (show ¬ (false = true) by decide), if_neg (show ¬ (false = true) by decide)]; simp
  · rw [if_pos rfl, if_pos rfl]; simp
theorem all_j1 (k p : Nat) (hp : p < 65536) (X : List (List Int)) (hX : X.length < 80) (b c : Bool) (a0 a1 a f : Bool) (x y z : Int) :
    marlineref10_All.j1 (k + 3) (p : Int) X b c a0 a1 a f x y z = some (X ++ ((if c = true then [ofN (numN p true)] else []) ++ ((if a = true then [ofN (numN p false)] else []) ++ ((if b = true then [ofN (255 :: 3 :: numN p true)] else []) ++ [ofN (255 :: 3 :: numN p false)])))) := by
  have p1 := r_Put p true hp
  simp only [marlineref10_All.j1]
  rw [p1]
  simp only [Option.bind_some]
  rw [if_pos (show X.length < 5864062014805 by omega), all_j2 k p hp X (by omega) b, all_j2 k p hp (X ++ [ofN (numN p true)]) (by simp; omega) b]
  cases c
  · rw [if_neg (show ¬ (false = true) by decide), if_neg (show ¬ (false = true) by decide)]; simp
  · rw [if_pos rfl, if_pos rfl]; simp
theorem all_j0 (k p : Nat) (hp : p < 65536) (b : Bool) (a0 a1 a f : Bool) (x y z : Int) :
    marlineref10_All.j0 (k + 4) (p : Int) [] b a0 a1 a f x y z = some ((if (a && b) = true then [ofN (numN p true)] else []) ++ ((if a = true then [ofN (numN p false)] else []) ++ ((if b = true then [ofN (255 :: 3 :: numN p true)] else []) ++ [ofN (255 :: 3 :: numN p false)]))) := by
  simp only [marlineref10_All.j0]
  rw [all_j1 k p hp [] (by simp) b, all_j1 k p hp [] (by simp) b]
  cases a
  · rw [if_neg (show ¬ (false = true) by decide)]; simp
  · rw [if_pos rfl]; simp
theorem map_if (c : Bool) (X : List Nat) : (if c = true then [X] else []).map ofN = if c = true then [ofN X] else [] := by cases c <;> rfl
theorem r_All (k : Nat) (a0 a1 a f : Bool) (x y z : Int) (p : Nat) (hp : p < 65536) :
    marlineref10_All.f (k + 4) a0 a1 a f x y z (p : Int) = some ((allN a f p).map ofN) := by
  have hd : decide ((p : Int) < 256) = decide (p < 256) := by
    by_cases h : p < 256
    · rw [decide_eq_true h, decide_eq_true (by omega)]
    · rw [decide_eq_false h, decide_eq_false (by omega)]
  unfold marlineref10_All.f allN
  rw [Option.bind_some, hd, all_j0 k p hp, all_j0 k p hp, List.map_append, List.map_append, List.map_append, map_if, map_if, map_if]
  cases f
  · rw [if_neg (show ¬ (false = true) by decide)]; rfl
  · rw [if_pos rfl]; rfl
theorem allN_len (a f : Bool) (p : Nat) : 1 ≤ (allN a f p).length ∧ (allN a f p).length ≤ 4 := by
  unfold allN
  repeat' split
  all_goals simp
theorem allN_each (a f : Bool) (p : Nat) (hp : p < 65536) : ∀ X ∈ allN a f p, (∀ x ∈ X, x < 256) ∧ 1 ≤ X.length ∧ X.length ≤ 4 := by
  have l1 := numN_len p true
  have l0 := numN_len p false
  have t1 := numN_lt p true hp
  have t0 := numN_lt p false hp
  have c1 : (∀ x ∈ numN p true, x < 256) ∧ 1 ≤ (numN p true).length ∧ (numN p true).length ≤ 4 := ⟨t1, by omega, by omega⟩
  have c0 : (∀ x ∈ numN p false, x < 256) ∧ 1 ≤ (numN p false).length ∧ (numN p false).length ≤ 4 := ⟨t0, by omega, by omega⟩
  have d1 : (∀ x ∈ (255 :: 3 :: numN p true), x < 256) ∧ 1 ≤ (255 :: 3 :: numN p true).length ∧ (255 :: 3 :: numN p true).length ≤ 4 := by
    refine ⟨?_, by simp, by simp; omega⟩
    intro x hx
    simp only [List.mem_cons] at hx
    rcases hx with rfl | rfl | hx
    · omega
    · omega
    · exact t1 x hx
  have d0 : (∀ x ∈ (255 :: 3 :: numN p false), x < 256) ∧ 1 ≤ (255 :: 3 :: numN p false).length ∧ (255 :: 3 :: numN p false).length ≤ 4 := by
    refine ⟨?_, by simp, by simp; omega⟩
    intro x hx
    simp only [List.mem_cons] at hx
    rcases hx with rfl | rfl | hx
    · omega
    · omega
    · exact t0 x hx
  have one : ∀ (c : Bool) (Y X : List Nat), X ∈ (if c = true then [Y] else []) → X = Y := by
    intro c Y X h
    cases c <;> simp at h
    exact h
  intro X hX
  unfold allN at hX
  rw [List.mem_append, List.mem_append, List.mem_append] at hX
  rcases hX with h | h | h | h
  · rw [one _ _ _ h]; exact c1
  · rw [one _ _ _ h]; exact c0
  · rw [one _ _ _ h]; exact d1
  · rw [List.mem_singleton.1 h]; exact d0
theorem rd_row (RW : List (List Nat)) (i : Int) (h0 : 0 ≤ i) (h1 : i < (RW.map ofN).length) : ∃ X ∈ RW, T.rd_L1 (RW.map ofN) i = ofN X := by
  obtain ⟨j, rfl⟩ := Int.eq_ofNat_of_zero_le h0
  have hj : j < RW.length := by simp at h1; exact h1
  refine ⟨RW[j], List.getElem_mem hj, ?_⟩
  unfold T.rd_L1
  rw [Int.toNat_natCast, List.getD_eq_getElem?_getD, List.getElem?_eq_getElem (by simpa using hj)]
  simp
theorem all_is (a0 a1 a f : Bool) (a4 a5 a6 : Int) (x : Int) (hx : 0 ≤ x ∧ x < 65536) (hr : marlineref09_Right.f (wrap64 x) = some true) :
    ∃ RW : List (List Int), (∀ W, GH W → Calls Tryd.prog 35 #[.agg #[.bool a0,.bool a1,.bool a,.bool f,.int .u32 a4,.int .u32 a5,.int .i64 a6], .int .u16 x] W (PostAll RW W)) ∧ marlineref10_All.f 10 a0 a1 a f a4 a5 a6 (wrap64 x) = some RW
      ∧ (∀ i : Int, 0 ≤ i → i < RW.length → marlineref01_Equal.f 100 (T.rd_L1 RW i) (T.rd_L1 RW i) = some true) ∧ RW.length ≤ 4 := by
  obtain ⟨P, rfl⟩ := Int.eq_ofNat_of_zero_le hx.1
  have hp : P < 65536 := by omega
  have hrt : right P = true := by rw [w64 P (by omega), r_Right P hp] at hr; exact Option.some.inj hr
  refine ⟨(allN a f P).map ofN, fun W hW => all_calls a0 a1 a f a4 a5 a6 P hp hrt W hW, ?_, ?_, ?_⟩
  · rw [w64 P (by omega)]; exact r_All 6 a0 a1 a f a4 a5 a6 P hp
  · intro i h0 h1
    obtain ⟨X, hX, e⟩ := rd_row _ i h0 h1
    have hl := allN_each a f P hp X hX
    rw [e, r_Equal 100 X X (by omega) (by omega)]
    simp
  · rw [List.length_map]; exact (allN_len a f P).2
end Go.Proofs.YtggpejjfgphihaaDoor.Pu
end
