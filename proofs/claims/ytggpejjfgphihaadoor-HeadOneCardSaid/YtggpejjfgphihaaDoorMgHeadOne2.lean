/- Laid together by wip/prune.py: what the claim needs of the session's texts and of the print program's words. -/
import Derived.Test.YtggpejjfgphihaaDoorMgHeadOne1
section
namespace Go.Proofs.YtggpejjfgphihaaDoor.X
open Go.Proofs.YtggpejjfgphihaaDoor.Given Go.Proofs.YtggpejjfgphihaaDoor.D Go.Proofs.YtggpejjfgphihaaDoor.H Go.Proofs.YtggpejjfgphihaaDoor.B Go.RowKit Go.Proofs.YtggpejjfgphihaaDoorW.PrintWords Go.Proofs.YtggpejjfgphihaaDoorW.PrintLast Go.Proofs.YtggpejjfgphihaaDoorW.PrintMore Go.Proofs.YtggpejjfgphihaaDoor.Pu
attribute [local go_sem] max2_int min2_int max_two min_two max_three min_three max_four min_four
set_option linter.unusedVariables false
set_option linter.unusedSimpArgs false
mutual
def marlinelaw10_HeadOne.j0 : Nat → Int → List Int → Bool → Bool → Bool → Bool → Bool → Int → Int → Int → Option (Bool)
  | 0, _, _, _, _, _, _, _, _, _, _ => none
  | k + 1, x1, x2, x22, x108000, x108001, x108002, x108003, x108004, x108005, x108006 => if x22 = true then ((marlinelaw10_speaks.f k).bind fun t109 => (some t109)) else (if ((x2.length : Int) > 100) then none else ((head_Get.f k x108000 x108001 x108002 x108003 x108004 x108005 x108006 x2).bind fun bt111 => (if bt111.2.2 = 0 then (marlinelaw10_HeadOne.l0 k x1 x2 bt111.1 bt111.2.1 false ((allI x108002 x108003 bt111.1).length : Int) 0 x108000 x108001 x108002 x108003 x108004 x108005 x108006) else (marlinelaw10_HeadOne.j2 k x1 x108000 x108001 x108002 x108003 x108004 x108005 x108006))))
def marlinelaw10_HeadOne.j2 : Nat → Int → Bool → Bool → Bool → Bool → Int → Int → Int → Option (Bool)
  | 0, _, _, _, _, _, _, _, _ => none
  | k + 1, x1, x111000, x111001, x111002, x111003, x111004, x111005, x111006 => (marlineref09_Right.f (wrap64 (x1))).bind fun t118 => (if t118 = true then (if ((allI x111002 x111003 x1).length : Int) = 0 then (marlinelaw10_HeadOne.j3 k x1 (allI x111002 x111003 x1) true x111000 x111001 x111002 x111003 x111004 x111005 x111006) else (marlinelaw10_HeadOne.j3 k x1 (allI x111002 x111003 x1) (decide (((allI x111002 x111003 x1).length : Int) > 4)) x111000 x111001 x111002 x111003 x111004 x111005 x111006)) else (some true))
def marlinelaw10_HeadOne.j3 : Nat → Int → List (List Int) → Bool → Bool → Bool → Bool → Bool → Int → Int → Int → Option (Bool)
  | 0, _, _, _, _, _, _, _, _, _, _ => none
  | k + 1, x1, x14, x79, x111000, x111001, x111002, x111003, x111004, x111005, x111006 => if x79 = true then (some false) else (if x1 = 49185 then (if 0 ≤ (wrap64 ((x14.length : Int) - 1)) then (if (wrap64 ((x14.length : Int) - 1)) < (x14.length : Int) then ((head_Put.f k x111000 x111001 x111002 x111003 x111004 x111005 x111006 x1).bind fun t120 => ((marlineref01_Equal.f k (rd_L1 x14 (wrap64 ((x14.length : Int) - 1))) t120).bind fun t123 => (some t123))) else (none)) else (none)) else (if 0 < (x14.length : Int) then ((head_Put.f k x111000 x111001 x111002 x111003 x111004 x111005 x111006 x1).bind fun t125 => ((marlineref01_Equal.f k (rd_L1 x14 0) t125).bind fun t128 => (some t128))) else (none)))
def marlinelaw10_HeadOne.l0 : Nat → Int → List Int → Int → Int → Bool → Int → Int → Bool → Bool → Bool → Bool → Int → Int → Int → Option (Bool)
  | 0, _, _, _, _, _, _, _, _, _, _, _, _, _, _ => none
  | k + 1, x1, x2, x8, x9, x11, x37, x38, x111000, x111001, x111002, x111003, x111004, x111005, x111006 => if x38 < x37 then (if 0 ≤ x38 then (if x38 < ((allI x111002 x111003 x8).length : Int) then (if x11 = true then (marlinelaw10_HeadOne.l0 k x1 x2 x8 x9 true x37 (wrap64 (x38 + 1)) x111000 x111001 x111002 x111003 x111004 x111005 x111006) else (if x9 ≤ (x2.length : Int) then (if 0 ≤ x9 then ((marlineref01_Equal.f k (rd_L1 (allI x111002 x111003 x8) x38) (x2.take (x9 : Int).toNat)).bind fun t116 => (marlinelaw10_HeadOne.l0 k x1 x2 x8 x9 t116 x37 (wrap64 (x38 + 1)) x111000 x111001 x111002 x111003 x111004 x111005 x111006)) else (none)) else (marlinelaw10_HeadOne.l0 k x1 x2 x8 x9 false x37 (wrap64 (x38 + 1)) x111000 x111001 x111002 x111003 x111004 x111005 x111006))) else (none)) else (none)) else (if x11 = true then ((marlineref09_Right.f (wrap64 (x8))).bind fun t117 => (if t117 = true then (marlinelaw10_HeadOne.j2 k x1 x111000 x111001 x111002 x111003 x111004 x111005 x111006) else (some false))) else (some false))
end
def marlinelaw10_HeadOne.f (k : Nat) (a0_0 : Bool) (a0_1 : Bool) (a0_2 : Bool) (a0_3 : Bool) (a0_4 : Int) (a0_5 : Int) (a0_6 : Int) (a1 : Int) (l2 : List Int) : Option (Bool) := (marlinelaw10_speaks.f k).bind fun t108 => (if t108 = true then (marlinelaw10_HeadOne.j0 k a1 l2 (decide ((l2.length : Int) > 100)) a0_0 a0_1 a0_2 a0_3 a0_4 a0_5 a0_6) else (marlinelaw10_HeadOne.j0 k a1 l2 true a0_0 a0_1 a0_2 a0_3 a0_4 a0_5 a0_6))
def marlinelaw10_HeadOne.T22 : Bool × List (List Nat × List Nat) := (true, [([], []), ([], []), ([0, 1], [0, 1]), ([2], [2]), ([], []), ([], []), ([4, 5], [4, 5]), ([3, 6, 6], [3, 6]), ([7, 7, 0, 1, 2, 3, 4, 5, 6, 7], [7])])
def marlinelaw10_HeadOne.B22 : List Nat := [0, 0, 3, 7, 0, 0, 48, 127, 255]
theorem marlinelaw10_HeadOne.tab22 : rtab .any (opsOf Tryd.f7 22) = marlinelaw10_HeadOne.T22 := by kernel_rfl
theorem marlinelaw10_HeadOne.bits22 : waitsOk marlinelaw10_HeadOne.T22.2 marlinelaw10_HeadOne.B22 = true := by kernel_rfl
set_option maxHeartbeats 8000000 in
set_option maxRecDepth 100000 in
theorem marlinelaw10_HeadOne.calls (k : Nat) (a0_0 : Bool) (a0_1 : Bool) (a0_2 : Bool) (a0_3 : Bool) (a0_4 : Int) (a0_5 : Int) (a0_6 : Int) (a1 : Int) (A2 : Option Addr) (c2 : Nat) (l2 : List Int) (r : Bool) (w : World) (hr2 : Kd.C (Kd.int .u8) w A2 l2.length l2) (hc2 : l2.length ≤ c2) (hgH : GH w) (hP : 0 ≤ a1 ∧ a1 < 65536) (hGQ : ¬ ((l2.length : Int) > 100) → ∀ (kk : Nat) (q n : Int), head_Get.f kk a0_0 a0_1 a0_2 a0_3 a0_4 a0_5 a0_6 l2 = some (q, n, 0) → 0 ≤ q ∧ q < 65536 ∧ right q.toNat = true) (h : marlinelaw10_HeadOne.f k a0_0 a0_1 a0_2 a0_3 a0_4 a0_5 a0_6 a1 l2 = some r) :
    Calls Tryd.prog 7 #[.agg #[.bool a0_0, .bool a0_1, .bool a0_2, .bool a0_3, .int .u32 a0_4, .int .u32 a0_5, .int .i64 a0_6], .int .u16 a1, .slice A2 l2.length c2] w fun e w' => e = .returned (.bool r) ∧ Below w.heap.size w w' := by
  have hu24 := Tryd.underlying24
  have hu26 := Tryd.underlying26
  have HGH := Aside0.mk hgH
  clear hgH
  have HP := Aside0.mk hP
  have HGQ := Aside0.mk hGQ
  clear hP hGQ
  have HR2 := Aside0.mk hr2
  have HC2 := Aside0.mk hc2
  clear hr2 hc2
  have HB := Aside0.mk (Below.refl w.heap.size w)
  have H : ((marlinelaw10_speaks.f k).bind fun t108 => (if t108 = true then (marlinelaw10_HeadOne.j0 k a1 l2 (decide ((l2.length : Int) > 100)) a0_0 a0_1 a0_2 a0_3 a0_4 a0_5 a0_6) else (marlinelaw10_HeadOne.j0 k a1 l2 true a0_0 a0_1 a0_2 a0_3 a0_4 a0_5 a0_6))) = some r := h
  clear h
  have HC4 := Aside0.mk H
  clear H
  go_enter Tryd.func7, Tryd.ntmps7
  go_upto_region 1 with (first | ((with_reducible refine gate_dst (N := 3) rfl ?_); (try (refine gate_guard (by rfl) ?_; dsimp only)); refine box_event ?hg (N := 3) ?hd (cs := #[.bool a0_0, .bool a0_1, .bool a0_2, .bool a0_3, .int .u32 a0_4, .int .u32 a0_5, .int .i64 a0_6]) (t := 24) ?hr ?_; (case hd => rfl); (case hg => rfl); (case hr => first | (go_simp; done) | (go_simp; rfl)); intro gb107 hg w5 hbox hb; have n0_ := Aside0.mk (below_step (by repeat (first | (with_reducible first | exact HB.out | apply below_alloc | apply pw_below_drewN | apply below_drew1) | exact HB.out)) hb); have n1_ := Aside0.mk (hbox); have n2_ := Aside0.mk ((by rw [hg]; exact (below_size (by repeat (first | (with_reducible first | exact HB.out | apply below_alloc | apply pw_below_drewN | apply below_drew1) | exact HB.out))) : w.heap.size ≤ gb107)); have n3_ := Aside0.mk ((by rw [hg]; exact (below_size (by repeat (first | (with_reducible first | exact HB.out | apply below_alloc | apply pw_below_drewN | apply below_drew1) | exact HB.out))) : w.heap.size ≤ gb107)); clear HB; have HB := n0_; have BK107 := n1_; have GW107 := n2_; have GE107 := n3_; clear n0_ n1_ n2_ n3_; clear hb hbox hg))
  (try simp only [Act.put, List.setIfInBounds_toArray, List.set_cons_zero, List.set_cons_succ])
  go_cut [22] (fun v22 wc => ∃ (kq : Nat) (x22_3 : Bool), v22 = .bool x22_3 ∧ Aside0 (marlinelaw10_HeadOne.j0 kq a1 l2 x22_3 a0_0 a0_1 a0_2 a0_3 a0_4 a0_5 a0_6 = some r) ∧ Aside0 (kq ≤ k) ∧ Aside0 (wc.heap[gb107]? = some (.cells #[.bool a0_0, .bool a0_1, .bool a0_2, .bool a0_3, .int .u32 a0_4, .int .u32 a0_5, .int .i64 a0_6] 24 (0, 0))) ∧ Aside0 (Below w.heap.size w wc))
  case first =>
    have H := HC4.out
    clear HC4
    replace H := Option.bind_eq_some_iff.mp H
    obtain ⟨t108, A60, H⟩ := H
    replace H : (if t108 = true then (marlinelaw10_HeadOne.j0 k a1 l2 (decide ((l2.length : Int) > 100)) a0_0 a0_1 a0_2 a0_3 a0_4 a0_5 a0_6) else (marlinelaw10_HeadOne.j0 k a1 l2 true a0_0 a0_1 a0_2 a0_3 a0_4 a0_5 a0_6)) = some r := H
    have A6 := Aside0.mk A60
    clear A60
    by_cases c7 : t108 = true
    · subst c7
      have H1 : (marlinelaw10_HeadOne.j0 k a1 l2 (decide ((l2.length : Int) > 100)) a0_0 a0_1 a0_2 a0_3 a0_4 a0_5 a0_6) = some r := by rw [if_pos rfl] at H; exact H
      clear H
      have H := H1
      clear H1
      have H' := Aside0.mk H
      clear H
      go_wp2_with (first | ((with_reducible refine gate_callee (f := 28) rfl ?_); refine goesL_ (some 16) rfl rfl Tryd.func28 (by kernel_rfl) rfl #[] rfl (by (try simp only [List.map_toArray, List.map_cons, List.map_nil]); first | done | rfl | (simp only [List.length_drop, List.length_take]; rfl)) ?_; (with_reducible refine (marlinelaw10_speaks.calls k  true _ ?side1 A6.out).mono ?_); (case side1 => repeat (first | exact (GH_below HGH.out HB.out) | (with_reducible refine GH_alloc ?_ _) | (with_reducible refine GH_drewN ?_ _) | (with_reducible refine GH_drew ?_))); rintro e w8 ⟨rfl, hb⟩; refine ⟨_, rfl, ?_⟩; have n0_ := Aside0.mk (blk_below (g := gb107) (o := .cells #[.bool a0_0, .bool a0_1, .bool a0_2, .bool a0_3, .int .u32 a0_4, .int .u32 a0_5, .int .i64 a0_6] 24 (0, 0)) (by (with_reducible repeat (first | refine blk_drewN ?_ _ | refine blk_drew ?_ | refine blk_alloc ?_ _)); exact BK107.out) hb); have n1_ := Aside0.mk (below_step (by repeat (first | (with_reducible first | exact HB.out | apply below_alloc | apply pw_below_drewN | apply below_drew1 | refine below_set ?_ GE107.out) | exact HB.out)) hb); clear BK107; clear HB; have BK107 := n0_; have HB := n1_; clear n0_ n1_; (try clear hb); (try clear hb2); (try clear hk); (try clear hi)))
      go_meet
      case rel => exact ⟨_, (decide ((l2.length : Int) > 100)), (by first | rfl | (simp; done) | (simp [*]; done)), H', ⟨by first | omega | exact Nat.le_refl _⟩, ⟨by (with_reducible repeat (first | refine blk_drewN ?_ _ | refine blk_drew ?_ | refine blk_alloc ?_ _)); exact BK107.out⟩, ⟨by repeat (first | (with_reducible first | exact HB.out | apply below_alloc | apply pw_below_drewN | apply below_drew1 | refine below_set ?_ GE107.out) | exact HB.out)⟩⟩
    · replace c7 := Bool.eq_false_iff.mpr c7
      subst c7
      have H1 : (marlinelaw10_HeadOne.j0 k a1 l2 true a0_0 a0_1 a0_2 a0_3 a0_4 a0_5 a0_6) = some r := by rw [if_neg (show ¬ (false = true) by decide)] at H; exact H
      clear H
      have H := H1
      clear H1
      have H' := Aside0.mk H
      clear H
      go_wp2_with (first | ((with_reducible refine gate_callee (f := 28) rfl ?_); refine goesL_ (some 16) rfl rfl Tryd.func28 (by kernel_rfl) rfl #[] rfl (by (try simp only [List.map_toArray, List.map_cons, List.map_nil]); first | done | rfl | (simp only [List.length_drop, List.length_take]; rfl)) ?_; (with_reducible refine (marlinelaw10_speaks.calls k  false _ ?side1 A6.out).mono ?_); (case side1 => repeat (first | exact (GH_below HGH.out HB.out) | (with_reducible refine GH_alloc ?_ _) | (with_reducible refine GH_drewN ?_ _) | (with_reducible refine GH_drew ?_))); rintro e w9 ⟨rfl, hb⟩; refine ⟨_, rfl, ?_⟩; have n0_ := Aside0.mk (blk_below (g := gb107) (o := .cells #[.bool a0_0, .bool a0_1, .bool a0_2, .bool a0_3, .int .u32 a0_4, .int .u32 a0_5, .int .i64 a0_6] 24 (0, 0)) (by (with_reducible repeat (first | refine blk_drewN ?_ _ | refine blk_drew ?_ | refine blk_alloc ?_ _)); exact BK107.out) hb); have n1_ := Aside0.mk (below_step (by repeat (first | (with_reducible first | exact HB.out | apply below_alloc | apply pw_below_drewN | apply below_drew1 | refine below_set ?_ GE107.out) | exact HB.out)) hb); clear BK107; clear HB; have BK107 := n0_; have HB := n1_; clear n0_ n1_; (try clear hb); (try clear hb2); (try clear hk); (try clear hi)))
      go_meet
      case rel => exact ⟨_, (true), (by first | rfl | (simp; done) | (simp [*]; done)), H', ⟨by first | omega | exact Nat.le_refl _⟩, ⟨by (with_reducible repeat (first | refine blk_drewN ?_ _ | refine blk_drew ?_ | refine blk_alloc ?_ _)); exact BK107.out⟩, ⟨by repeat (first | (with_reducible first | exact HB.out | apply below_alloc | apply pw_below_drewN | apply below_drew1 | refine below_set ?_ GE107.out) | exact HB.out)⟩⟩
  case rest =>
    clear HC4
    try clear c2
    try clear p2
    try clear c7
    obtain ⟨kq, x22_3, rfl, HA, HJ3, BK107, HB⟩ := hcut
    cases kq with
    | zero => exact absurd HA.out (by simp [marlinelaw10_HeadOne.j0])
    | succ kj3 =>
      have H := HA.out
      clear HA
      simp only [marlinelaw10_HeadOne.j0] at H
      by_cases c10 : x22_3 = true
      · subst c10
        have H1 : ((marlinelaw10_speaks.f kj3).bind fun t109 => (some t109)) = some r := by rw [if_pos rfl] at H; exact H
        clear H
        have H := H1
        clear H1
        replace H := Option.bind_eq_some_iff.mp H
        obtain ⟨t109, A110, H⟩ := H
        replace H : (some t109) = some r := H
        have A11 := Aside0.mk A110
        clear A110
        obtain rfl := Option.some.inj H
        go_wp2_with (first | ((with_reducible refine gate_callee (f := 28) rfl ?_); refine goesL_ (some 23) rfl rfl Tryd.func28 (by kernel_rfl) rfl #[] rfl (by (try simp only [List.map_toArray, List.map_cons, List.map_nil]); first | done | rfl | (simp only [List.length_drop, List.length_take]; rfl)) ?_; (with_reducible refine (marlinelaw10_speaks.calls kj3  t109 _ ?side1 A11.out).mono ?_); (case side1 => repeat (first | exact (GH_below HGH.out HB.out) | (with_reducible refine GH_alloc ?_ _) | (with_reducible refine GH_drewN ?_ _) | (with_reducible refine GH_drew ?_))); rintro e w12 ⟨rfl, hb⟩; refine ⟨_, rfl, ?_⟩; have n0_ := Aside0.mk (blk_below (g := gb107) (o := .cells #[.bool a0_0, .bool a0_1, .bool a0_2, .bool a0_3, .int .u32 a0_4, .int .u32 a0_5, .int .i64 a0_6] 24 (0, 0)) (by (with_reducible repeat (first | refine blk_drewN ?_ _ | refine blk_drew ?_ | refine blk_alloc ?_ _)); exact BK107.out) hb); have n1_ := Aside0.mk (below_step (by repeat (first | (with_reducible first | exact HB.out | apply below_alloc | apply pw_below_drewN | apply below_drew1 | refine below_set ?_ GE107.out) | exact HB.out)) hb); clear BK107; clear HB; have BK107 := n0_; have HB := n1_; clear n0_ n1_; (try clear hb); (try clear hb2); (try clear hk); (try clear hi)))
        go_ret
        exact ⟨by first | rfl | (simp [errW_none, errW_some] <;> rfl) | (simp [*, errW_none, errW_some] <;> rfl), by repeat (first | (with_reducible first | exact HB.out | apply below_alloc | apply pw_below_drewN | apply below_drew1 | refine below_set ?_ GE107.out) | exact HB.out)⟩
      · replace c10 := Bool.eq_false_iff.mpr c10
        subst c10
        have hlen : ¬ ((l2.length : Int) > 100) := by intro hl; rw [if_neg (show ¬ (false = true) by decide), if_pos hl] at H; exact absurd H (by simp)
        have HLN := Aside0.mk hlen
        clear hlen
        have H1 : ((head_Get.f kj3 a0_0 a0_1 a0_2 a0_3 a0_4 a0_5 a0_6 l2).bind fun bt111 => (if bt111.2.2 = 0 then (marlinelaw10_HeadOne.l0 kj3 a1 l2 bt111.1 bt111.2.1 false ((allI a0_2 a0_3 bt111.1).length : Int) 0 a0_0 a0_1 a0_2 a0_3 a0_4 a0_5 a0_6) else (marlinelaw10_HeadOne.j2 kj3 a1 a0_0 a0_1 a0_2 a0_3 a0_4 a0_5 a0_6))) = some r := by rw [if_neg (show ¬ (false = true) by decide), if_neg HLN.out] at H; exact H
        clear H
        have H := H1
        clear H1
        replace H := Option.bind_eq_some_iff.mp H
        obtain ⟨⟨t111, t112, t113⟩, A130, H⟩ := H
        replace H : (if t113 = 0 then (marlinelaw10_HeadOne.l0 kj3 a1 l2 t111 t112 false ((allI a0_2 a0_3 t111).length : Int) 0 a0_0 a0_1 a0_2 a0_3 a0_4 a0_5 a0_6) else (marlinelaw10_HeadOne.j2 kj3 a1 a0_0 a0_1 a0_2 a0_3 a0_4 a0_5 a0_6)) = some r := H
        have A13 := Aside0.mk A130
        clear A130
        have HC14 := Aside0.mk H
        clear H
        have hcz15_0 : wc.cell? ⟨gb107, 0, none⟩ = some (.bool a0_0) := (blk_cell BK107.out 0).trans rfl
        have hcz15_1 : wc.cell? ⟨gb107, 1, none⟩ = some (.bool a0_1) := (blk_cell BK107.out 1).trans rfl
        have hcz15_2 : wc.cell? ⟨gb107, 2, none⟩ = some (.bool a0_2) := (blk_cell BK107.out 2).trans rfl
        have hcz15_3 : wc.cell? ⟨gb107, 3, none⟩ = some (.bool a0_3) := (blk_cell BK107.out 3).trans rfl
        have hcz15_4 : wc.cell? ⟨gb107, 4, none⟩ = some (.int .u32 a0_4) := (blk_cell BK107.out 4).trans rfl
        have hcz15_5 : wc.cell? ⟨gb107, 5, none⟩ = some (.int .u32 a0_5) := (blk_cell BK107.out 5).trans rfl
        have hcz15_6 : wc.cell? ⟨gb107, 6, none⟩ = some (.int .i64 a0_6) := (blk_cell BK107.out 6).trans rfl
        have hfz15_0 := blk_frozen BK107.out 0
        have hfz15_1 := blk_frozen BK107.out 1
        have hfz15_2 := blk_frozen BK107.out 2
        have hfz15_3 := blk_frozen BK107.out 3
        have hfz15_4 := blk_frozen BK107.out 4
        have hfz15_5 := blk_frozen BK107.out 5
        have hfz15_6 := blk_frozen BK107.out 6
        go_upto_if 33 with (first | ((with_reducible refine gate_dst (N := 7) rfl ?_); (try (refine gate_guard (by rfl) ?_; dsimp only)); refine box_event ?hg (N := 7) ?hd (cs := #[.bool false, .bool false, .bool false, .bool false, .int .u32 0, .int .u32 0, .int .i64 0]) (t := 26) ?hr ?_; (case hd => rfl); (case hg => rfl); (case hr => first | (go_simp; done) | (go_simp; rfl)); intro gb110 hg w16 hbox hb; have n0_ := Aside0.mk (blk_below (g := gb107) (o := .cells #[.bool a0_0, .bool a0_1, .bool a0_2, .bool a0_3, .int .u32 a0_4, .int .u32 a0_5, .int .i64 a0_6] 24 (0, 0)) (by (with_reducible repeat (first | refine blk_drewN ?_ _ | refine blk_drew ?_ | refine blk_alloc ?_ _)); exact BK107.out) hb); have n1_ := Aside0.mk (below_step (by repeat (first | (with_reducible first | exact HB.out | apply below_alloc | apply pw_below_drewN | apply below_drew1 | refine below_set ?_ GE107.out) | exact HB.out)) hb); have n2_ := Aside0.mk (hbox); have n3_ := Aside0.mk ((by rw [hg]; exact (below_size (by repeat (first | (with_reducible first | exact HB.out | apply below_alloc | apply pw_below_drewN | apply below_drew1 | refine below_set ?_ GE107.out) | exact HB.out))) : w.heap.size ≤ gb110)); have n4_ := Aside0.mk ((by rw [hg]; exact (below_size (by repeat (first | (with_reducible first | exact HB.out | apply below_alloc | apply pw_below_drewN | apply below_drew1 | refine below_set ?_ GE107.out) | exact HB.out))) : w.heap.size ≤ gb110)); have n5_ := Aside0.mk ((by rw [hg]; exact Nat.ne_of_lt (blk_lt (g := gb107) (o := .cells #[.bool a0_0, .bool a0_1, .bool a0_2, .bool a0_3, .int .u32 a0_4, .int .u32 a0_5, .int .i64 a0_6] 24 (0, 0)) (by (with_reducible repeat (first | refine blk_drewN ?_ _ | refine blk_drew ?_ | refine blk_alloc ?_ _)); exact BK107.out)) : gb107 ≠ gb110)); have n6_ := Aside0.mk ((by rw [hg]; exact Nat.ne_of_gt (blk_lt (g := gb107) (o := .cells #[.bool a0_0, .bool a0_1, .bool a0_2, .bool a0_3, .int .u32 a0_4, .int .u32 a0_5, .int .i64 a0_6] 24 (0, 0)) (by (with_reducible repeat (first | refine blk_drewN ?_ _ | refine blk_drew ?_ | refine blk_alloc ?_ _)); exact BK107.out)) : gb110 ≠ gb107)); clear BK107; clear HB; have BK107 := n0_; have HB := n1_; have BK110 := n2_; have GW110 := n3_; have GE110 := n4_; have NB107_110 := n5_; have NB110_107 := n6_; clear n0_ n1_ n2_ n3_ n4_ n5_ n6_; clear hb hbox hg; have hnb17 := NB110_107.out; have hnc17 := NB107_110.out; have hcz18_0 : w16.cell? ⟨gb110, 0, none⟩ = some (.bool false) := (blk_cell BK110.out 0).trans rfl; have hcz18_1 : w16.cell? ⟨gb110, 1, none⟩ = some (.bool false) := (blk_cell BK110.out 1).trans rfl; have hcz18_2 : w16.cell? ⟨gb110, 2, none⟩ = some (.bool false) := (blk_cell BK110.out 2).trans rfl; have hcz18_3 : w16.cell? ⟨gb110, 3, none⟩ = some (.bool false) := (blk_cell BK110.out 3).trans rfl; have hcz18_4 : w16.cell? ⟨gb110, 4, none⟩ = some (.int .u32 0) := (blk_cell BK110.out 4).trans rfl; have hcz18_5 : w16.cell? ⟨gb110, 5, none⟩ = some (.int .u32 0) := (blk_cell BK110.out 5).trans rfl; have hcz18_6 : w16.cell? ⟨gb110, 6, none⟩ = some (.int .i64 0) := (blk_cell BK110.out 6).trans rfl; have hfz18_0 := blk_frozen BK110.out 0; have hfz18_1 := blk_frozen BK110.out 1; have hfz18_2 := blk_frozen BK110.out 2; have hfz18_3 := blk_frozen BK110.out 3; have hfz18_4 := blk_frozen BK110.out 4; have hfz18_5 := blk_frozen BK110.out 5; have hfz18_6 := blk_frozen BK110.out 6) | ((with_reducible refine gate_callee (f := 29) rfl ?_); refine goesL_ (some 28) rfl rfl Tryd.func29 (by kernel_rfl) rfl #[.agg #[.bool a0_0, .bool a0_1, .bool a0_2, .bool a0_3, .int .u32 a0_4, .int .u32 a0_5, .int .i64 a0_6], .slice A2 l2.length c2] rfl (by (try simp only [List.map_toArray, List.map_cons, List.map_nil]); first | done | rfl | (simp only [List.length_drop, List.length_take]; rfl)) ?_; (with_reducible refine (head_Get.calls kj3 a0_0 a0_1 a0_2 a0_3 a0_4 a0_5 a0_6 _ _ l2 t111 t112 t113 _ ?side1 ?side2 ?side3 A13.out).mono ?_); (case side1 => exact Kd.C_below HR2.out (by repeat (first | (with_reducible first | exact HB.out | apply below_alloc | apply pw_below_drewN | apply below_drew1 | refine below_set ?_ GE107.out | refine below_set ?_ GE110.out) | exact HB.out))); (case side2 => exact HC2.out); (case side3 => exact GH_below HGH.out (by repeat (first | (with_reducible first | exact HB.out | apply below_alloc | apply pw_below_drewN | apply below_drew1 | refine below_set ?_ GE107.out | refine below_set ?_ GE110.out) | exact HB.out))); rintro e w19 ⟨rfl, hb⟩; refine ⟨_, rfl, ?_⟩; have n0_ := Aside0.mk (blk_below (g := gb107) (o := .cells #[.bool a0_0, .bool a0_1, .bool a0_2, .bool a0_3, .int .u32 a0_4, .int .u32 a0_5, .int .i64 a0_6] 24 (0, 0)) (by (with_reducible repeat (first | refine blk_drewN ?_ _ | refine blk_drew ?_ | refine blk_alloc ?_ _)); refine blk_far ?_ NB107_110.out _; (with_reducible repeat (first | refine blk_drewN ?_ _ | refine blk_drew ?_ | refine blk_alloc ?_ _)); refine blk_far ?_ NB107_110.out _; (with_reducible repeat (first | refine blk_drewN ?_ _ | refine blk_drew ?_ | refine blk_alloc ?_ _)); refine blk_far ?_ NB107_110.out _; (with_reducible repeat (first | refine blk_drewN ?_ _ | refine blk_drew ?_ | refine blk_alloc ?_ _)); refine blk_far ?_ NB107_110.out _; (with_reducible repeat (first | refine blk_drewN ?_ _ | refine blk_drew ?_ | refine blk_alloc ?_ _)); refine blk_far ?_ NB107_110.out _; (with_reducible repeat (first | refine blk_drewN ?_ _ | refine blk_drew ?_ | refine blk_alloc ?_ _)); refine blk_far ?_ NB107_110.out _; (with_reducible repeat (first | refine blk_drewN ?_ _ | refine blk_drew ?_ | refine blk_alloc ?_ _)); refine blk_far ?_ NB107_110.out _; (with_reducible repeat (first | refine blk_drewN ?_ _ | refine blk_drew ?_ | refine blk_alloc ?_ _)); exact BK107.out) hb); have n1_ := Aside0.mk (blk_below (g := gb110) (o := .cells #[.bool a0_0, .bool a0_1, .bool a0_2, .bool a0_3, .int .u32 a0_4, .int .u32 a0_5, .int .i64 a0_6] 26 (0, 0)) (by (with_reducible repeat (first | refine blk_drewN ?_ _ | refine blk_drew ?_ | refine blk_alloc ?_ _)); refine blk_put (cs := #[.bool a0_0, .bool a0_1, .bool a0_2, .bool a0_3, .int .u32 a0_4, .int .u32 a0_5, .int .i64 0]) ?_ 6 _ rfl; (with_reducible repeat (first | refine blk_drewN ?_ _ | refine blk_drew ?_ | refine blk_alloc ?_ _)); refine blk_put (cs := #[.bool a0_0, .bool a0_1, .bool a0_2, .bool a0_3, .int .u32 a0_4, .int .u32 0, .int .i64 0]) ?_ 5 _ rfl; (with_reducible repeat (first | refine blk_drewN ?_ _ | refine blk_drew ?_ | refine blk_alloc ?_ _)); refine blk_put (cs := #[.bool a0_0, .bool a0_1, .bool a0_2, .bool a0_3, .int .u32 0, .int .u32 0, .int .i64 0]) ?_ 4 _ rfl; (with_reducible repeat (first | refine blk_drewN ?_ _ | refine blk_drew ?_ | refine blk_alloc ?_ _)); refine blk_put (cs := #[.bool a0_0, .bool a0_1, .bool a0_2, .bool false, .int .u32 0, .int .u32 0, .int .i64 0]) ?_ 3 _ rfl; (with_reducible repeat (first | refine blk_drewN ?_ _ | refine blk_drew ?_ | refine blk_alloc ?_ _)); refine blk_put (cs := #[.bool a0_0, .bool a0_1, .bool false, .bool false, .int .u32 0, .int .u32 0, .int .i64 0]) ?_ 2 _ rfl; (with_reducible repeat (first | refine blk_drewN ?_ _ | refine blk_drew ?_ | refine blk_alloc ?_ _)); refine blk_put (cs := #[.bool a0_0, .bool false, .bool false, .bool false, .int .u32 0, .int .u32 0, .int .i64 0]) ?_ 1 _ rfl; (with_reducible repeat (first | refine blk_drewN ?_ _ | refine blk_drew ?_ | refine blk_alloc ?_ _)); refine blk_put (cs := #[.bool false, .bool false, .bool false, .bool false, .int .u32 0, .int .u32 0, .int .i64 0]) ?_ 0 _ rfl; (with_reducible repeat (first | refine blk_drewN ?_ _ | refine blk_drew ?_ | refine blk_alloc ?_ _)); exact BK110.out) hb); have n2_ := Aside0.mk (below_step (by repeat (first | (with_reducible first | exact HB.out | apply below_alloc | apply pw_below_drewN | apply below_drew1 | refine below_set ?_ GE107.out | refine below_set ?_ GE110.out) | exact HB.out)) hb); clear BK107; clear BK110; clear HB; have BK107 := n0_; have BK110 := n1_; have HB := n2_; clear n0_ n1_ n2_; (try clear hb); (try clear hb2); (try clear hk); (try clear hi)))
        (try simp only [Act.put, List.setIfInBounds_toArray, List.set_cons_zero, List.set_cons_succ])
        go_cut [] (fun wc => ∃ (kq : Nat), Aside0 (marlinelaw10_HeadOne.j2 kq a1 a0_0 a0_1 a0_2 a0_3 a0_4 a0_5 a0_6 = some r) ∧ Aside0 (kq ≤ kj3) ∧ Aside0 (wc.heap[gb107]? = some (.cells #[.bool a0_0, .bool a0_1, .bool a0_2, .bool a0_3, .int .u32 a0_4, .int .u32 a0_5, .int .i64 a0_6] 24 (0, 0))) ∧ Aside0 (wc.heap[gb110]? = some (.cells #[.bool a0_0, .bool a0_1, .bool a0_2, .bool a0_3, .int .u32 a0_4, .int .u32 a0_5, .int .i64 a0_6] 26 (0, 0))) ∧ Aside0 (Below w.heap.size w wc))
        case first =>
          have H := HC14.out
          clear HC14
          by_cases c20 : t113 = 0
          · rw [if_pos c20] at H
            have c20b0 : (t113 == 0) = true := beq_iff_eq.mpr c20
            have c20b1 : (t113 != 0) = false := bne_eq_false_iff_eq.mpr c20
            have HALL1 := Aside0.mk (all_at a0_0 a0_1 a0_2 a0_3 a0_4 a0_5 a0_6 t111 (HGQ.out HLN.out kj3 t111 t112 (by have h := A13.out; rw [c20] at h; exact h)))
            clear c20
            (first | rw [c20b0] | (simp only [i64_w, i32_w]; rw [c20b0]) | skip)
            have H' := Aside0.mk H
            clear H
            have hnb21 := NB110_107.out
            have hnc21 := NB107_110.out
            have hcz22_0 : w19.cell? ⟨gb110, 0, none⟩ = some (.bool a0_0) := (blk_cell BK110.out 0).trans rfl
            have hcz22_1 : w19.cell? ⟨gb110, 1, none⟩ = some (.bool a0_1) := (blk_cell BK110.out 1).trans rfl
            have hcz22_2 : w19.cell? ⟨gb110, 2, none⟩ = some (.bool a0_2) := (blk_cell BK110.out 2).trans rfl
            have hcz22_3 : w19.cell? ⟨gb110, 3, none⟩ = some (.bool a0_3) := (blk_cell BK110.out 3).trans rfl
            have hcz22_4 : w19.cell? ⟨gb110, 4, none⟩ = some (.int .u32 a0_4) := (blk_cell BK110.out 4).trans rfl
            have hcz22_5 : w19.cell? ⟨gb110, 5, none⟩ = some (.int .u32 a0_5) := (blk_cell BK110.out 5).trans rfl
            have hcz22_6 : w19.cell? ⟨gb110, 6, none⟩ = some (.int .i64 a0_6) := (blk_cell BK110.out 6).trans rfl
            have hfz22_0 := blk_frozen BK110.out 0
            have hfz22_1 := blk_frozen BK110.out 1
            have hfz22_2 := blk_frozen BK110.out 2
            have hfz22_3 := blk_frozen BK110.out 3
            have hfz22_4 := blk_frozen BK110.out 4
            have hfz22_5 := blk_frozen BK110.out 5
            have hfz22_6 := blk_frozen BK110.out 6
            go_wp2_with fail
            refine (HALL1.out _ (by repeat (first | exact (GH_below HGH.out HB.out) | (with_reducible refine GH_alloc ?_ _) | (with_reducible refine GH_drewN ?_ _) | (with_reducible refine GH_drew ?_)))).mono ?_
            rintro e w123 ⟨AA, cA, rfl, hcA, hkA, hb⟩
            have n1_ := Aside0.mk (blk_below (g := gb107) (o := .cells #[.bool a0_0, .bool a0_1, .bool a0_2, .bool a0_3, .int .u32 a0_4, .int .u32 a0_5, .int .i64 a0_6] 24 (0, 0)) (by (with_reducible repeat (first | refine blk_drewN ?_ _ | refine blk_drew ?_ | refine blk_alloc ?_ _)); exact BK107.out) hb)
            have n2_ := Aside0.mk (blk_below (g := gb110) (o := .cells #[.bool a0_0, .bool a0_1, .bool a0_2, .bool a0_3, .int .u32 a0_4, .int .u32 a0_5, .int .i64 a0_6] 26 (0, 0)) (by (with_reducible repeat (first | refine blk_drewN ?_ _ | refine blk_drew ?_ | refine blk_alloc ?_ _)); exact BK110.out) hb)
            have n3_ := Aside0.mk (below_step (by repeat (first | (with_reducible first | exact HB.out | apply below_alloc | apply pw_below_drewN | apply below_drew1 | refine below_set ?_ GE107.out | refine below_set ?_ GE110.out) | exact HB.out)) hb)
            have HKA := Aside0.mk hkA
            have HCA := Aside0.mk hcA
            clear hkA hcA BK107 BK110 HB hb
            have BK107 := n1_
            have BK110 := n2_
            have HB := n3_
            clear n1_ n2_ n3_
            clear HALL1
            try clear hcz22_0 hcz22_1 hcz22_2 hcz22_3 hcz22_4 hcz22_5 hcz22_6
            go_wp2
            go_loopg [11, 38] kj3 (fun kq v11 v38 w' => ∃ (x11_2 : Bool) (x38_2 : Int), v11 = .bool x11_2 ∧ v38 = .int .i64 x38_2 ∧ Aside0 (marlinelaw10_HeadOne.l0 kq a1 l2 t111 t112 x11_2 ((allI a0_2 a0_3 t111).length : Int) x38_2 a0_0 a0_1 a0_2 a0_3 a0_4 a0_5 a0_6 = some r) ∧ Aside0 (kq ≤ kj3) ∧ Aside0 (Kd.C (Kd.slice 5 (Kd.int .u8)) w' AA (allI a0_2 a0_3 t111).length (allI a0_2 a0_3 t111)) ∧ Aside0 (w'.heap[gb107]? = some (.cells #[.bool a0_0, .bool a0_1, .bool a0_2, .bool a0_3, .int .u32 a0_4, .int .u32 a0_5, .int .i64 a0_6] 24 (0, 0))) ∧ Aside0 (w'.heap[gb110]? = some (.cells #[.bool a0_0, .bool a0_1, .bool a0_2, .bool a0_3, .int .u32 a0_4, .int .u32 a0_5, .int .i64 a0_6] 26 (0, 0))) ∧ Aside0 (Below w.heap.size w w'))
            case atStart => exact ⟨(false), (0), (by first | rfl | (simp; done) | (simp [*]; done)), (by first | rfl | (simp; done) | (simp [*]; done)), H', ⟨Nat.le_refl _⟩, ⟨by (with_reducible repeat (first | refine Kd.C_alloc ?_ _ | refine Kd.C_drewN ?_ _ | refine Kd.C_drew ?_)); exact HKA.out⟩, ⟨by (with_reducible repeat (first | refine blk_drewN ?_ _ | refine blk_drew ?_ | refine blk_alloc ?_ _)); exact BK107.out⟩, ⟨by (with_reducible repeat (first | refine blk_drewN ?_ _ | refine blk_drew ?_ | refine blk_alloc ?_ _)); exact BK110.out⟩, ⟨by repeat (first | (with_reducible first | exact HB.out | apply below_alloc | apply pw_below_drewN | apply below_drew1 | refine below_set ?_ GE107.out | refine below_set ?_ GE110.out) | exact HB.out)⟩⟩
            case round =>
              clear H'
              try clear c1
              try clear c2
              try clear p2
              try clear c7
              try clear c10
              try clear c17
              try clear c20
              try clear c20b0
              try clear c20b1
              try clear c21
              try clear hcz15_0
              try clear hcz15_1
              try clear hcz15_2
              try clear hcz15_3
              try clear hcz15_4
              try clear hcz15_5
              try clear hcz15_6
              try clear hcz18_0
              try clear hcz18_1
              try clear hcz18_2
              try clear hcz18_3
              try clear hcz18_4
              try clear hcz18_5
              try clear hcz18_6
              try clear hcz22_0
              try clear hcz22_1
              try clear hcz22_2
              try clear hcz22_3
              try clear hcz22_4
              try clear hcz22_5
              try clear hcz22_6
              try clear hfz15_0
              try clear hfz15_1
              try clear hfz15_2
              try clear hfz15_3
              try clear hfz15_4
              try clear hfz15_5
              try clear hfz15_6
              try clear hfz18_0
              try clear hfz18_1
              try clear hfz18_2
              try clear hfz18_3
              try clear hfz18_4
              try clear hfz18_5
              try clear hfz18_6
              try clear hfz22_0
              try clear hfz22_1
              try clear hfz22_2
              try clear hfz22_3
              try clear hfz22_4
              try clear hfz22_5
              try clear hfz22_6
              try clear p2
              obtain ⟨x11_2, x38_2, rfl, rfl, HA, HK2, HKA, BK107, BK110, HB⟩ := hrel
              cases gk with
              | zero => exact absurd HA.out (by simp [marlinelaw10_HeadOne.l0])
              | succ k2 =>
                have H := HA.out
                clear HA
                simp only [marlinelaw10_HeadOne.l0] at H
                by_cases c23 : x38_2 < ((allI a0_2 a0_3 t111).length : Int)
                · rw [if_pos c23] at H
                  have c23b0 : decide (x38_2 < ((allI a0_2 a0_3 t111).length : Int)) = true := decide_eq_true c23
                  clear c23
                  by_cases c24 : 0 ≤ x38_2
                  · rw [if_pos c24] at H
                    have c24b0 : decide (0 ≤ x38_2) = true := decide_eq_true c24
                    clear c24
                    by_cases c25 : x38_2 < ((allI a0_2 a0_3 t111).length : Int)
                    · rw [if_pos c25] at H
                      have c25b0 : decide (x38_2 < ((allI a0_2 a0_3 t111).length : Int)) = true := decide_eq_true c25
                      clear c25
                      by_cases c26 : x11_2 = true
                      · subst c26
                        have H1 : (marlinelaw10_HeadOne.l0 k2 a1 l2 t111 t112 true ((allI a0_2 a0_3 t111).length : Int) (wrap64 (x38_2 + 1)) a0_0 a0_1 a0_2 a0_3 a0_4 a0_5 a0_6) = some r := by rw [if_pos rfl] at H; exact H
                        clear H
                        have H := H1
                        clear H1
                        have H' := Aside0.mk H
                        clear H
                        have p114 : 0 ≤ (x38_2 : Int) := of_decide_eq_true (by first | (with_reducible assumption) | assumption)
                        have q114 : x38_2 < ((allI a0_2 a0_3 t111).length : Int) := of_decide_eq_true (by first | (with_reducible assumption) | assumption)
                        obtain ⟨ad114, A114_0, c114_0, e114, hx114_0, hl114_0, hi114_0⟩ := at_L1 HKA.out x38_2 p114 q114
                        cases e114
                        have HR114_0 := Aside0.mk hi114_0
                        have HC114_0 := Aside0.mk hl114_0
                        clear hi114_0 hl114_0
                        replace p114 := eq_true p114
                        replace q114 := eq_true q114
                        go_wp2
                        go_roundg k2
                        case measure => have := HJ3.out; have := HK2.out; omega
                        case rel => exact ⟨(true), (wrap64 (x38_2 + 1)), (by first | rfl | (simp; done) | (simp [*]; done)), (by first | rfl | (simp; done) | (simp [*]; done)), H', ⟨by have := HJ3.out; have := HK2.out; omega⟩, ⟨by (with_reducible repeat (first | refine Kd.C_alloc ?_ _ | refine Kd.C_drewN ?_ _ | refine Kd.C_drew ?_)); exact HKA.out⟩, ⟨by (with_reducible repeat (first | refine blk_drewN ?_ _ | refine blk_drew ?_ | refine blk_alloc ?_ _)); exact BK107.out⟩, ⟨by (with_reducible repeat (first | refine blk_drewN ?_ _ | refine blk_drew ?_ | refine blk_alloc ?_ _)); exact BK110.out⟩, ⟨by repeat (first | (with_reducible first | exact HB.out | apply below_alloc | apply pw_below_drewN | apply below_drew1 | refine below_set ?_ GE107.out | refine below_set ?_ GE110.out) | exact HB.out)⟩⟩
                      · replace c26 := Bool.eq_false_iff.mpr c26
                        subst c26
                        have H1 : (if t112 ≤ (l2.length : Int) then (if 0 ≤ t112 then ((marlineref01_Equal.f k2 (rd_L1 (allI a0_2 a0_3 t111) x38_2) (l2.take (t112 : Int).toNat)).bind fun t116 => (marlinelaw10_HeadOne.l0 k2 a1 l2 t111 t112 t116 ((allI a0_2 a0_3 t111).length : Int) (wrap64 (x38_2 + 1)) a0_0 a0_1 a0_2 a0_3 a0_4 a0_5 a0_6)) else (none)) else (marlinelaw10_HeadOne.l0 k2 a1 l2 t111 t112 false ((allI a0_2 a0_3 t111).length : Int) (wrap64 (x38_2 + 1)) a0_0 a0_1 a0_2 a0_3 a0_4 a0_5 a0_6)) = some r := by rw [if_neg (show ¬ (false = true) by decide)] at H; exact H
                        clear H
                        have H := H1
                        clear H1
                        by_cases c27 : t112 ≤ (l2.length : Int)
                        · rw [if_pos c27] at H
                          have c27b0 : decide (t112 ≤ (l2.length : Int)) = true := decide_eq_true c27
                          clear c27
                          by_cases c28 : 0 ≤ t112
                          · rw [if_pos c28] at H
                            have c28b0 := eq_true c28
                            have c28b1 : decide (0 ≤ t112) = true := decide_eq_true c28
                            clear c28
                            have c29b0 := eq_true (of_decide_eq_true (by first | (with_reducible assumption) | assumption) : t112 ≤ (l2.length : Int))
                            replace H := Option.bind_eq_some_iff.mp H
                            obtain ⟨t116, A300, H⟩ := H
                            replace H : (marlinelaw10_HeadOne.l0 k2 a1 l2 t111 t112 t116 ((allI a0_2 a0_3 t111).length : Int) (wrap64 (x38_2 + 1)) a0_0 a0_1 a0_2 a0_3 a0_4 a0_5 a0_6) = some r := H
                            have A30 := Aside0.mk A300
                            clear A300
                            have H' := Aside0.mk H
                            clear H
                            have p114 : 0 ≤ (x38_2 : Int) := of_decide_eq_true (by first | (with_reducible assumption) | assumption)
                            have q114 : x38_2 < ((allI a0_2 a0_3 t111).length : Int) := of_decide_eq_true (by first | (with_reducible assumption) | assumption)
                            obtain ⟨ad114, A114_0, c114_0, e114, hx114_0, hl114_0, hi114_0⟩ := at_L1 HKA.out x38_2 p114 q114
                            cases e114
                            have HR114_0 := Aside0.mk hi114_0
                            have HC114_0 := Aside0.mk hl114_0
                            clear hi114_0 hl114_0
                            replace p114 := eq_true p114
                            replace q114 := eq_true q114
                            obtain ⟨i031, hi031, _, hsz31, _⟩ := info_parts info5
                            obtain ⟨hcut31, hA31, hC31⟩ := print_take_of (P := Tryd.prog) (Value.int .u8) 0 35 5 .i64 Tryd.underlying35 hi031 hsz31 A2 c2 l2 t112 (of_decide_eq_true (by first | (with_reducible assumption) | assumption)) (of_decide_eq_true (by first | (with_reducible assumption) | assumption)) HC2.out
                            have HR115 := Aside0.mk (Kd.C_of_reads (h1 := fun _ => rfl) (hA31 _ (Kd.reads_of_C HR2.out)))
                            have HC115 := Aside0.mk hC31
                            clear hA31 hC31 hi031 hsz31
                            go_wp2_with (first | (go_at_call 31; refine calls_of_args (args' := #[.slice A114_0 (rd_L1 (allI a0_2 a0_3 t111) x38_2).length c114_0, .slice A2 (l2.take (t112 : Int).toNat).length c2]) (by first | (rw [show (l2.take (t112 : Int).toNat).length = t112.toNat from (by rw [List.length_take]; have h_ : (t112 : Int) ≤ (l2.length : Int) := of_decide_eq_true (by first | (with_reducible assumption) | assumption); omega)] <;> rfl) |  rfl) ?_; (with_reducible refine (marlineref01_Equal.calls k2 _ _ (rd_L1 (allI a0_2 a0_3 t111) x38_2) _ _ (l2.take (t112 : Int).toNat) t116 _ ?side1 ?side2 ?side3 ?side4 A30.out).mono ?_); (case side1 => repeat (first | exact (by repeat (first | (with_reducible exact HR114_0.out) | (with_reducible refine Kd.C_alloc ?_ _) | (with_reducible refine Kd.C_drewN ?_ _) | (with_reducible refine Kd.C_drew ?_) | exact HR114_0.out)) | (with_reducible refine Kd.C_alloc ?_ _) | (with_reducible refine Kd.C_drewN ?_ _) | (with_reducible refine Kd.C_drew ?_))); (case side2 => exact HC114_0.out); (case side3 => repeat (first | exact (Kd.C_below HR115.out HB.out) | (with_reducible refine Kd.C_alloc ?_ _) | (with_reducible refine Kd.C_drewN ?_ _) | (with_reducible refine Kd.C_drew ?_))); (case side4 => exact HC115.out); rintro e w' ⟨rfl, ⟨nd, rfl⟩⟩))
                            go_roundg k2
                            case measure => have := HJ3.out; have := HK2.out; omega
                            case rel => exact ⟨(t116), (wrap64 (x38_2 + 1)), (by first | rfl | (simp; done) | (simp [*]; done)), (by first | rfl | (simp; done) | (simp [*]; done)), H', ⟨by have := HJ3.out; have := HK2.out; omega⟩, ⟨by (with_reducible repeat (first | refine Kd.C_alloc ?_ _ | refine Kd.C_drewN ?_ _ | refine Kd.C_drew ?_)); exact HKA.out⟩, ⟨by (with_reducible repeat (first | refine blk_drewN ?_ _ | refine blk_drew ?_ | refine blk_alloc ?_ _)); exact BK107.out⟩, ⟨by (with_reducible repeat (first | refine blk_drewN ?_ _ | refine blk_drew ?_ | refine blk_alloc ?_ _)); exact BK110.out⟩, ⟨by repeat (first | (with_reducible first | exact HB.out | apply below_alloc | apply pw_below_drewN | apply below_drew1 | refine below_set ?_ GE107.out | refine below_set ?_ GE110.out) | exact HB.out)⟩⟩
                          · rw [if_neg c28] at H
                            exact absurd H (by simp)
                        · rw [if_neg c27] at H
                          have c27b0 : decide (t112 ≤ (l2.length : Int)) = false := decide_eq_false c27
                          clear c27
                          have H' := Aside0.mk H
                          clear H
                          have p114 : 0 ≤ (x38_2 : Int) := of_decide_eq_true (by first | (with_reducible assumption) | assumption)
                          have q114 : x38_2 < ((allI a0_2 a0_3 t111).length : Int) := of_decide_eq_true (by first | (with_reducible assumption) | assumption)
                          obtain ⟨ad114, A114_0, c114_0, e114, hx114_0, hl114_0, hi114_0⟩ := at_L1 HKA.out x38_2 p114 q114
                          cases e114
                          have HR114_0 := Aside0.mk hi114_0
                          have HC114_0 := Aside0.mk hl114_0
                          clear hi114_0 hl114_0
                          replace p114 := eq_true p114
                          replace q114 := eq_true q114
                          go_wp2
                          go_roundg k2
                          case measure => have := HJ3.out; have := HK2.out; omega
                          case rel => exact ⟨(false), (wrap64 (x38_2 + 1)), (by first | rfl | (simp; done) | (simp [*]; done)), (by first | rfl | (simp; done) | (simp [*]; done)), H', ⟨by have := HJ3.out; have := HK2.out; omega⟩, ⟨by (with_reducible repeat (first | refine Kd.C_alloc ?_ _ | refine Kd.C_drewN ?_ _ | refine Kd.C_drew ?_)); exact HKA.out⟩, ⟨by (with_reducible repeat (first | refine blk_drewN ?_ _ | refine blk_drew ?_ | refine blk_alloc ?_ _)); exact BK107.out⟩, ⟨by (with_reducible repeat (first | refine blk_drewN ?_ _ | refine blk_drew ?_ | refine blk_alloc ?_ _)); exact BK110.out⟩, ⟨by repeat (first | (with_reducible first | exact HB.out | apply below_alloc | apply pw_below_drewN | apply below_drew1 | refine below_set ?_ GE107.out | refine below_set ?_ GE110.out) | exact HB.out)⟩⟩
                    · rw [if_neg c25] at H
                      exact absurd H (by simp)
                  · rw [if_neg c24] at H
                    exact absurd H (by simp)
                · rw [if_neg c23] at H
                  have c23b0 : decide (x38_2 < ((allI a0_2 a0_3 t111).length : Int)) = false := decide_eq_false c23
                  clear c23
                  by_cases c32 : x11_2 = true
                  · subst c32
                    have H1 : ((marlineref09_Right.f (wrap64 (t111))).bind fun t117 => (if t117 = true then (marlinelaw10_HeadOne.j2 k2 a1 a0_0 a0_1 a0_2 a0_3 a0_4 a0_5 a0_6) else (some false))) = some r := by rw [if_pos rfl] at H; exact H
                    clear H
                    have H := H1
                    clear H1
                    replace H := Option.bind_eq_some_iff.mp H
                    obtain ⟨t117, A330, H⟩ := H
                    replace H : (if t117 = true then (marlinelaw10_HeadOne.j2 k2 a1 a0_0 a0_1 a0_2 a0_3 a0_4 a0_5 a0_6) else (some false)) = some r := H
                    have A33 := Aside0.mk A330
                    clear A330
                    by_cases c34 : t117 = true
                    · subst c34
                      have H1 : (marlinelaw10_HeadOne.j2 k2 a1 a0_0 a0_1 a0_2 a0_3 a0_4 a0_5 a0_6) = some r := by rw [if_pos rfl] at H; exact H
                      clear H
                      have H := H1
                      clear H1
                      have H' := Aside0.mk H
                      clear H
                      go_wp2_with (first | (go_at_call 34; (with_reducible refine (marlineref09_Right.calls (wrap64 (t111)) true _ A33.out).mono ?_); rintro e w' ⟨rfl, ⟨nd, rfl⟩⟩))
                      go_meet
                      case rel => exact ⟨_, H', ⟨by have := HJ3.out; have := HK2.out; first | omega | exact Nat.le_refl _⟩, ⟨by (with_reducible repeat (first | refine blk_drewN ?_ _ | refine blk_drew ?_ | refine blk_alloc ?_ _)); exact BK107.out⟩, ⟨by (with_reducible repeat (first | refine blk_drewN ?_ _ | refine blk_drew ?_ | refine blk_alloc ?_ _)); exact BK110.out⟩, ⟨by repeat (first | (with_reducible first | exact HB.out | apply below_alloc | apply pw_below_drewN | apply below_drew1 | refine below_set ?_ GE107.out | refine below_set ?_ GE110.out) | exact HB.out)⟩⟩
                    · replace c34 := Bool.eq_false_iff.mpr c34
                      subst c34
                      have H1 : (some false) = some r := by rw [if_neg (show ¬ (false = true) by decide)] at H; exact H
                      clear H
                      have H := H1
                      clear H1
                      obtain rfl := Option.some.inj H
                      go_wp2_with (first | (go_at_call 34; (with_reducible refine (marlineref09_Right.calls (wrap64 (t111)) false _ A33.out).mono ?_); rintro e w' ⟨rfl, ⟨nd, rfl⟩⟩))
                      go_ret
                      exact ⟨by first | rfl | (simp [errW_none, errW_some] <;> rfl) | (simp [*, errW_none, errW_some] <;> rfl), by repeat (first | (with_reducible first | exact HB.out | apply below_alloc | apply pw_below_drewN | apply below_drew1 | refine below_set ?_ GE107.out | refine below_set ?_ GE110.out) | exact HB.out)⟩
                  · replace c32 := Bool.eq_false_iff.mpr c32
                    subst c32
                    have H1 : (some false) = some r := by rw [if_neg (show ¬ (false = true) by decide)] at H; exact H
                    clear H
                    have H := H1
                    clear H1
                    obtain rfl := Option.some.inj H
                    go_wp2
                    go_ret
                    exact ⟨by first | rfl | (simp [errW_none, errW_some] <;> rfl) | (simp [*, errW_none, errW_some] <;> rfl), by repeat (first | (with_reducible first | exact HB.out | apply below_alloc | apply pw_below_drewN | apply below_drew1 | refine below_set ?_ GE107.out | refine below_set ?_ GE110.out) | exact HB.out)⟩
          · rw [if_neg c20] at H
            have c20b0 : (t113 == 0) = false := beq_eq_false_iff_ne.mpr c20
            have c20b1 : (t113 != 0) = true := bne_iff_ne.mpr c20
            (first | rw [c20b0] | (simp only [i64_w, i32_w]; rw [c20b0]) | skip)
            have H' := Aside0.mk H
            clear H
            go_wp2
            go_meet
            case rel => exact ⟨_, H', ⟨by have := HJ3.out; first | omega | exact Nat.le_refl _⟩, ⟨by (with_reducible repeat (first | refine blk_drewN ?_ _ | refine blk_drew ?_ | refine blk_alloc ?_ _)); exact BK107.out⟩, ⟨by (with_reducible repeat (first | refine blk_drewN ?_ _ | refine blk_drew ?_ | refine blk_alloc ?_ _)); exact BK110.out⟩, ⟨by repeat (first | (with_reducible first | exact HB.out | apply below_alloc | apply pw_below_drewN | apply below_drew1 | refine below_set ?_ GE107.out | refine below_set ?_ GE110.out) | exact HB.out)⟩⟩
        case rest =>
          clear HC14
          try clear c1
          try clear p1
          try clear q1
          try clear hx1
          try clear c2
          try clear p2
          try clear c3
          try clear p6
          try clear c7
          try clear c10
          try clear c11
          try clear p11
          try clear q11
          try clear hx11
          try clear c17
          try clear c20
          try clear c20b0
          try clear c20b1
          try clear c21
          try clear c23
          try clear c23b0
          try clear c24
          try clear c24b0
          try clear c25
          try clear c25b0
          try clear c26
          try clear c27
          try clear c27b0
          try clear c28
          try clear c28b0
          try clear c28b1
          try clear c29
          try clear c29b0
          try clear c32
          try clear c34
          try clear hcz15_0
          try clear hcz15_1
          try clear hcz15_2
          try clear hcz15_3
          try clear hcz15_4
          try clear hcz15_5
          try clear hcz15_6
          try clear hcz18_0
          try clear hcz18_1
          try clear hcz18_2
          try clear hcz18_3
          try clear hcz18_4
          try clear hcz18_5
          try clear hcz18_6
          try clear hcz22_0
          try clear hcz22_1
          try clear hcz22_2
          try clear hcz22_3
          try clear hcz22_4
          try clear hcz22_5
          try clear hcz22_6
          try clear hfz15_0
          try clear hfz15_1
          try clear hfz15_2
          try clear hfz15_3
          try clear hfz15_4
          try clear hfz15_5
          try clear hfz15_6
          try clear hfz18_0
          try clear hfz18_1
          try clear hfz18_2
          try clear hfz18_3
          try clear hfz18_4
          try clear hfz18_5
          try clear hfz18_6
          try clear hfz22_0
          try clear hfz22_1
          try clear hfz22_2
          try clear hfz22_3
          try clear hfz22_4
          try clear hfz22_5
          try clear hfz22_6
          try clear hx114_0
          try clear p114
          try clear p2
          try clear q114
          obtain ⟨kq, HA, HJ13, BK107, BK110, HB⟩ := hcut
          cases kq with
          | zero => exact absurd HA.out (by simp [marlinelaw10_HeadOne.j2])
          | succ kj13 =>
            have H := HA.out
            clear HA
            simp only [marlinelaw10_HeadOne.j2] at H
            replace H := Option.bind_eq_some_iff.mp H
            obtain ⟨t118, A350, H⟩ := H
            replace H : (if t118 = true then (if ((allI a0_2 a0_3 a1).length : Int) = 0 then (marlinelaw10_HeadOne.j3 kj13 a1 (allI a0_2 a0_3 a1) true a0_0 a0_1 a0_2 a0_3 a0_4 a0_5 a0_6) else (marlinelaw10_HeadOne.j3 kj13 a1 (allI a0_2 a0_3 a1) (decide (((allI a0_2 a0_3 a1).length : Int) > 4)) a0_0 a0_1 a0_2 a0_3 a0_4 a0_5 a0_6)) else (some true)) = some r := H
            have A35 := Aside0.mk A350
            clear A350
            by_cases c36 : t118 = true
            · subst c36
              have H1 : (if ((allI a0_2 a0_3 a1).length : Int) = 0 then (marlinelaw10_HeadOne.j3 kj13 a1 (allI a0_2 a0_3 a1) true a0_0 a0_1 a0_2 a0_3 a0_4 a0_5 a0_6) else (marlinelaw10_HeadOne.j3 kj13 a1 (allI a0_2 a0_3 a1) (decide (((allI a0_2 a0_3 a1).length : Int) > 4)) a0_0 a0_1 a0_2 a0_3 a0_4 a0_5 a0_6)) = some r := by rw [if_pos rfl] at H; exact H
              clear H
              have H := H1
              clear H1
              have HC37 := Aside0.mk H
              clear H
              have HALL2 := Aside0.mk (all_at a0_0 a0_1 a0_2 a0_3 a0_4 a0_5 a0_6 a1 (right_at a1 HP.out A35.out))
              go_upto_region 17 with (first | ((with_reducible refine gate_callee (f := 34) rfl ?_); refine goesL_ (some 67) rfl rfl Tryd.func34 (by kernel_rfl) rfl #[.int .i64 (wrap64 (a1))] rfl (by (try simp only [List.map_toArray, List.map_cons, List.map_nil]); first | done | rfl | (simp only [List.length_drop, List.length_take]; rfl)) ?_; (with_reducible refine (marlineref09_Right.calls (wrap64 (a1)) true _ A35.out).mono ?_); rintro e w' ⟨rfl, ⟨nd, rfl⟩⟩; refine ⟨_, rfl, ?_⟩; have hnb38 := NB110_107.out; have hnc38 := NB107_110.out; have hcz39_0 : wc.cell? ⟨gb110, 0, none⟩ = some (.bool a0_0) := (blk_cell BK110.out 0).trans rfl; have hcz39_1 : wc.cell? ⟨gb110, 1, none⟩ = some (.bool a0_1) := (blk_cell BK110.out 1).trans rfl; have hcz39_2 : wc.cell? ⟨gb110, 2, none⟩ = some (.bool a0_2) := (blk_cell BK110.out 2).trans rfl; have hcz39_3 : wc.cell? ⟨gb110, 3, none⟩ = some (.bool a0_3) := (blk_cell BK110.out 3).trans rfl; have hcz39_4 : wc.cell? ⟨gb110, 4, none⟩ = some (.int .u32 a0_4) := (blk_cell BK110.out 4).trans rfl; have hcz39_5 : wc.cell? ⟨gb110, 5, none⟩ = some (.int .u32 a0_5) := (blk_cell BK110.out 5).trans rfl; have hcz39_6 : wc.cell? ⟨gb110, 6, none⟩ = some (.int .i64 a0_6) := (blk_cell BK110.out 6).trans rfl; have hfz39_0 := blk_frozen BK110.out 0; have hfz39_1 := blk_frozen BK110.out 1; have hfz39_2 := blk_frozen BK110.out 2; have hfz39_3 := blk_frozen BK110.out 3; have hfz39_4 := blk_frozen BK110.out 4; have hfz39_5 := blk_frozen BK110.out 5; have hfz39_6 := blk_frozen BK110.out 6) | ((with_reducible refine gate_callee (f := 35) rfl ?_); refine goesL_ (some 71) rfl rfl Tryd.func35 (by kernel_rfl) rfl #[.agg #[.bool a0_0, .bool a0_1, .bool a0_2, .bool a0_3, .int .u32 a0_4, .int .u32 a0_5, .int .i64 a0_6], .int .u16 a1] rfl (by (try simp only [List.map_toArray, List.map_cons, List.map_nil]); first | done | rfl | (simp only [List.length_drop, List.length_take]; rfl)) ?_; (refine (HALL2.out _ ?side1).mono ?_); (case side1 => repeat (first | exact (GH_below HGH.out HB.out) | (with_reducible refine GH_alloc ?_ _) | (with_reducible refine GH_drewN ?_ _) | (with_reducible refine GH_drew ?_))); rintro e w124 ⟨AA, cA, rfl, hcA, hkA, hb⟩; refine ⟨_, rfl, ?_⟩; have n1_ := Aside0.mk (blk_below (g := gb107) (o := .cells #[.bool a0_0, .bool a0_1, .bool a0_2, .bool a0_3, .int .u32 a0_4, .int .u32 a0_5, .int .i64 a0_6] 24 (0, 0)) (by (with_reducible repeat (first | refine blk_drewN ?_ _ | refine blk_drew ?_ | refine blk_alloc ?_ _)); exact BK107.out) hb); have n2_ := Aside0.mk (blk_below (g := gb110) (o := .cells #[.bool a0_0, .bool a0_1, .bool a0_2, .bool a0_3, .int .u32 a0_4, .int .u32 a0_5, .int .i64 a0_6] 26 (0, 0)) (by (with_reducible repeat (first | refine blk_drewN ?_ _ | refine blk_drew ?_ | refine blk_alloc ?_ _)); exact BK110.out) hb); have n3_ := Aside0.mk (below_step (by repeat (first | (with_reducible first | exact HB.out | apply below_alloc | apply pw_below_drewN | apply below_drew1 | refine below_set ?_ GE107.out | refine below_set ?_ GE110.out) | exact HB.out)) hb); have HKA := Aside0.mk hkA; have HCA := Aside0.mk hcA; clear hkA hcA BK107 BK110 HB hb; have BK107 := n1_; have BK110 := n2_; have HB := n3_; clear n1_ n2_ n3_))
              (try simp only [Act.put, List.setIfInBounds_toArray, List.set_cons_zero, List.set_cons_succ])
              go_cut [79] (fun v79 wc => ∃ (kq : Nat) (x79_36 : Bool), v79 = .bool x79_36 ∧ Aside0 (marlinelaw10_HeadOne.j3 kq a1 (allI a0_2 a0_3 a1) x79_36 a0_0 a0_1 a0_2 a0_3 a0_4 a0_5 a0_6 = some r) ∧ Aside0 (kq ≤ kj13) ∧ Aside0 (Kd.C (Kd.slice 5 (Kd.int .u8)) wc AA (allI a0_2 a0_3 a1).length (allI a0_2 a0_3 a1)) ∧ Aside0 (wc.heap[gb107]? = some (.cells #[.bool a0_0, .bool a0_1, .bool a0_2, .bool a0_3, .int .u32 a0_4, .int .u32 a0_5, .int .i64 a0_6] 24 (0, 0))) ∧ Aside0 (wc.heap[gb110]? = some (.cells #[.bool a0_0, .bool a0_1, .bool a0_2, .bool a0_3, .int .u32 a0_4, .int .u32 a0_5, .int .i64 a0_6] 26 (0, 0))) ∧ Aside0 (Below w.heap.size w wc))
              case first =>
                have H := HC37.out
                clear HC37
                by_cases c40 : ((allI a0_2 a0_3 a1).length : Int) = 0
                · rw [if_pos c40] at H
                  have c40b0 : (((allI a0_2 a0_3 a1).length : Int) == 0) = true := beq_iff_eq.mpr c40
                  have c40b1 : (((allI a0_2 a0_3 a1).length : Int) != 0) = false := bne_eq_false_iff_eq.mpr c40
                  clear c40
                  (first | rw [c40b0] | (simp only [i64_w, i32_w]; rw [c40b0]) | skip)
                  have H' := Aside0.mk H
                  clear H
                  go_wp2
                  go_meet
                  case rel => exact ⟨_, (true), (by first | rfl | (simp; done) | (simp [*]; done)), H', ⟨by have := HJ3.out; have := HJ13.out; first | omega | exact Nat.le_refl _⟩, ⟨by (with_reducible repeat (first | refine Kd.C_alloc ?_ _ | refine Kd.C_drewN ?_ _ | refine Kd.C_drew ?_)); exact HKA.out⟩, ⟨by (with_reducible repeat (first | refine blk_drewN ?_ _ | refine blk_drew ?_ | refine blk_alloc ?_ _)); exact BK107.out⟩, ⟨by (with_reducible repeat (first | refine blk_drewN ?_ _ | refine blk_drew ?_ | refine blk_alloc ?_ _)); exact BK110.out⟩, ⟨by repeat (first | (with_reducible first | exact HB.out | apply below_alloc | apply pw_below_drewN | apply below_drew1 | refine below_set ?_ GE107.out | refine below_set ?_ GE110.out) | exact HB.out)⟩⟩
                · rw [if_neg c40] at H
                  have c40b0 : (((allI a0_2 a0_3 a1).length : Int) == 0) = false := beq_eq_false_iff_ne.mpr c40
                  have c40b1 : (((allI a0_2 a0_3 a1).length : Int) != 0) = true := bne_iff_ne.mpr c40
                  have c40b2 : ¬ ((allI a0_2 a0_3 a1) = []) := fun h_ => c40 (by rw [h_]; rfl)
                  (first | rw [c40b0] | (simp only [i64_w, i32_w]; rw [c40b0]) | skip)
                  have H' := Aside0.mk H
                  clear H
                  go_wp2
                  go_meet
                  case rel => exact ⟨_, (decide (((allI a0_2 a0_3 a1).length : Int) > 4)), (by first | rfl | (simp; done) | (simp [*]; done)), H', ⟨by have := HJ3.out; have := HJ13.out; first | omega | exact Nat.le_refl _⟩, ⟨by (with_reducible repeat (first | refine Kd.C_alloc ?_ _ | refine Kd.C_drewN ?_ _ | refine Kd.C_drew ?_)); exact HKA.out⟩, ⟨by (with_reducible repeat (first | refine blk_drewN ?_ _ | refine blk_drew ?_ | refine blk_alloc ?_ _)); exact BK107.out⟩, ⟨by (with_reducible repeat (first | refine blk_drewN ?_ _ | refine blk_drew ?_ | refine blk_alloc ?_ _)); exact BK110.out⟩, ⟨by repeat (first | (with_reducible first | exact HB.out | apply below_alloc | apply pw_below_drewN | apply below_drew1 | refine below_set ?_ GE107.out | refine below_set ?_ GE110.out) | exact HB.out)⟩⟩
              case rest =>
                clear HC37
                try clear c1
                try clear p1
                try clear q1
                try clear hx1
                try clear c2
                try clear p2
                try clear c3
                try clear c4
                try clear p6
                try clear c7
                try clear c10
                try clear c11
                try clear p11
                try clear q11
                try clear hx11
                try clear c17
                try clear c20
                try clear c20b0
                try clear c20b1
                try clear c21
                try clear c23
                try clear c23b0
                try clear c24
                try clear c24b0
                try clear c25
                try clear c25b0
                try clear c26
                try clear c27
                try clear c27b0
                try clear c28
                try clear c28b0
                try clear c28b1
                try clear c29
                try clear c29b0
                try clear c32
                try clear c34
                try clear c36
                try clear c38
                try clear c40
                try clear c40b0
                try clear c40b1
                try clear c40b2
                try clear hcz15_0
                try clear hcz15_1
                try clear hcz15_2
                try clear hcz15_3
                try clear hcz15_4
                try clear hcz15_5
                try clear hcz15_6
                try clear hcz18_0
                try clear hcz18_1
                try clear hcz18_2
                try clear hcz18_3
                try clear hcz18_4
                try clear hcz18_5
                try clear hcz18_6
                try clear hcz22_0
                try clear hcz22_1
                try clear hcz22_2
                try clear hcz22_3
                try clear hcz22_4
                try clear hcz22_5
                try clear hcz22_6
                try clear hcz39_0
                try clear hcz39_1
                try clear hcz39_2
                try clear hcz39_3
                try clear hcz39_4
                try clear hcz39_5
                try clear hcz39_6
                try clear hfz15_0
                try clear hfz15_1
                try clear hfz15_2
                try clear hfz15_3
                try clear hfz15_4
                try clear hfz15_5
                try clear hfz15_6
                try clear hfz18_0
                try clear hfz18_1
                try clear hfz18_2
                try clear hfz18_3
                try clear hfz18_4
                try clear hfz18_5
                try clear hfz18_6
                try clear hfz22_0
                try clear hfz22_1
                try clear hfz22_2
                try clear hfz22_3
                try clear hfz22_4
                try clear hfz22_5
                try clear hfz22_6
                try clear hfz39_0
                try clear hfz39_1
                try clear hfz39_2
                try clear hfz39_3
                try clear hfz39_4
                try clear hfz39_5
                try clear hfz39_6
                try clear hx114_0
                try clear p1
                try clear p11
                try clear p114
                try clear p2
                try clear p6
                try clear q1
                try clear q11
                try clear q114
                obtain ⟨kq, x79_36, rfl, HA, HJ36, HO_14, BK107, BK110, HB⟩ := hcut
                cases kq with
                | zero => exact absurd HA.out (by simp [marlinelaw10_HeadOne.j3])
                | succ kj36 =>
                  have H := HA.out
                  clear HA
                  simp only [marlinelaw10_HeadOne.j3] at H
                  by_cases c41 : x79_36 = true
                  · subst c41
                    have H1 : (some false) = some r := by rw [if_pos rfl] at H; exact H
                    clear H
                    have H := H1
                    clear H1
                    obtain rfl := Option.some.inj H
                    go_wp2
                    go_ret
                    exact ⟨by first | rfl | (simp [errW_none, errW_some] <;> rfl) | (simp [*, errW_none, errW_some] <;> rfl), by repeat (first | (with_reducible first | exact HB.out | apply below_alloc | apply pw_below_drewN | apply below_drew1 | refine below_set ?_ GE107.out | refine below_set ?_ GE110.out) | exact HB.out)⟩
                  · replace c41 := Bool.eq_false_iff.mpr c41
                    subst c41
                    have H1 : (if a1 = 49185 then (if 0 ≤ (wrap64 (((allI a0_2 a0_3 a1).length : Int) - 1)) then (if (wrap64 (((allI a0_2 a0_3 a1).length : Int) - 1)) < ((allI a0_2 a0_3 a1).length : Int) then ((head_Put.f kj36 a0_0 a0_1 a0_2 a0_3 a0_4 a0_5 a0_6 a1).bind fun t120 => ((marlineref01_Equal.f kj36 (rd_L1 (allI a0_2 a0_3 a1) (wrap64 (((allI a0_2 a0_3 a1).length : Int) - 1))) t120).bind fun t123 => (some t123))) else (none)) else (none)) else (if 0 < ((allI a0_2 a0_3 a1).length : Int) then ((head_Put.f kj36 a0_0 a0_1 a0_2 a0_3 a0_4 a0_5 a0_6 a1).bind fun t125 => ((marlineref01_Equal.f kj36 (rd_L1 (allI a0_2 a0_3 a1) 0) t125).bind fun t128 => (some t128))) else (none))) = some r := by rw [if_neg (show ¬ (false = true) by decide)] at H; exact H
                    clear H
                    have H := H1
                    clear H1
                    by_cases c42 : a1 = 49185
                    · rw [if_pos c42] at H
                      have c42b0 : (a1 == 49185) = true := beq_iff_eq.mpr c42
                      have c42b1 : (a1 != 49185) = false := bne_eq_false_iff_eq.mpr c42
                      clear c42
                      obtain ⟨ji43, hji43⟩ : ∃ j_ : Int, (wrap64 (((allI a0_2 a0_3 a1).length : Int) - 1)) = j_ := ⟨_, rfl⟩
                      replace H : (if 0 ≤ (ji43) then (if (ji43) < ((allI a0_2 a0_3 a1).length : Int) then ((head_Put.f kj36 a0_0 a0_1 a0_2 a0_3 a0_4 a0_5 a0_6 a1).bind fun t120 => ((marlineref01_Equal.f kj36 (rd_L1 (allI a0_2 a0_3 a1) (ji43)) t120).bind fun t123 => (some t123))) else (none)) else (none)) = some r := by first | (rw [hji43] at H; exact H) | (simp only [hji43] at H ⊢; exact H)
                      have hji43w : (IntKind.i64.wrap (((allI a0_2 a0_3 a1).length : Int) - 1)) = ji43 := (i64_w _).trans hji43
                      by_cases c44 : 0 ≤ (ji43)
                      · rw [if_pos c44] at H
                        have c44b0 : decide (0 ≤ (ji43)) = true := decide_eq_true c44
                        clear c44
                        by_cases c45 : (ji43) < ((allI a0_2 a0_3 a1).length : Int)
                        · rw [if_pos c45] at H
                          have c45b0 : decide ((ji43) < ((allI a0_2 a0_3 a1).length : Int)) = true := decide_eq_true c45
                          clear c45
                          replace H := Option.bind_eq_some_iff.mp H
                          obtain ⟨t120, A460, H⟩ := H
                          replace H : ((marlineref01_Equal.f kj36 (rd_L1 (allI a0_2 a0_3 a1) (ji43)) t120).bind fun t123 => (some t123)) = some r := H
                          have A46 := Aside0.mk A460
                          clear A460
                          replace H := Option.bind_eq_some_iff.mp H
                          obtain ⟨t123, A470, H⟩ := H
                          replace H : (some t123) = some r := H
                          have A47 := Aside0.mk A470
                          clear A470
                          obtain rfl := Option.some.inj H
                          try go_wp2
                          have n0_ := Aside0.mk (Kd.C_drew HO_14.out)
                          have n1_ := Aside0.mk (blk_drew BK107.out)
                          have n2_ := Aside0.mk (blk_drew BK110.out)
                          have n3_ := Aside0.mk (below_drew1 HB.out)
                          clear HO_14
                          clear BK107
                          clear BK110
                          clear HB
                          have HO_14 := n0_
                          have BK107 := n1_
                          have BK110 := n2_
                          have HB := n3_
                          clear n0_ n1_ n2_ n3_
                          have p119 : 0 ≤ ((ji43) : Int) := of_decide_eq_true (by first | (with_reducible assumption) | assumption)
                          have q119 : (ji43) < ((allI a0_2 a0_3 a1).length : Int) := of_decide_eq_true (by first | (with_reducible assumption) | assumption)
                          obtain ⟨ad119, A119_0, c119_0, e119, hx119_0, hl119_0, hi119_0⟩ := at_L1 HO_14.out (ji43) p119 q119
                          cases e119
                          have HR119_0 := Aside0.mk hi119_0
                          have HC119_0 := Aside0.mk hl119_0
                          clear hi119_0 hl119_0
                          replace p119 := eq_true p119
                          replace q119 := eq_true q119
                          refine start_ (n := 9) (S := fun w' => w'.cell? ⟨gb110, 0, none⟩ = some (.bool a0_0) ∧ w'.cell? ⟨gb110, 1, none⟩ = some (.bool a0_1) ∧ w'.cell? ⟨gb110, 2, none⟩ = some (.bool a0_2) ∧ w'.cell? ⟨gb110, 3, none⟩ = some (.bool a0_3) ∧ w'.cell? ⟨gb110, 4, none⟩ = some (.int .u32 a0_4) ∧ w'.cell? ⟨gb110, 5, none⟩ = some (.int .u32 a0_5) ∧ w'.cell? ⟨gb110, 6, none⟩ = some (.int .i64 a0_6) ∧ w'.cell? (ad119.add ((ji43)).toNat) = some (.slice A119_0 (rd_L1 (allI a0_2 a0_3 a1) (ji43)).length c119_0)) (ds := []) #[false, false, false, false, false, false, false, false, false] (by kernel_rfl) rfl rfl ⟨(blk_cell BK110.out 0).trans rfl, (blk_cell BK110.out 1).trans rfl, (blk_cell BK110.out 2).trans rfl, (blk_cell BK110.out 3).trans rfl, (blk_cell BK110.out 4).trans rfl, (blk_cell BK110.out 5).trans rfl, (blk_cell BK110.out 6).trans rfl, hx119_0⟩ (fun hHeld => ?_); refine with_tabW marlinelaw10_HeadOne.tab22 marlinelaw10_HeadOne.bits22 (fun HT_ HW_ => ?_)
                          generalize wc.drew = w48 at HO_14 BK107 BK110 HB HR119_0 hx119_0 hHeld ⊢
                          refine pure_ (i := 0) (N := some 85) (v := ?_) (a' := ?_) #[true, false, false, false, false, false, false, false, false] rfl rfl (any_of HT_.out (by kernel_rfl)) (fun _ _ _ h => h) (Or.inl ⟨by rfl, ?_⟩) ?_ ?_
                          rotate_left
                          · intro w'
                            go_simp
                            with_reducible rfl
                          rotate_left
                          · simp only [Act.put, List.setIfInBounds_toArray, List.set_cons_zero, List.set_cons_succ, i64_w, i32_w]
                            rfl
                          refine pure_ (i := 1) (N := some 86) (v := ?_) (a' := ?_) #[true, true, false, false, false, false, false, false, false] rfl rfl (any_of HT_.out (by kernel_rfl)) (fun _ _ _ h => h) (Or.inl ⟨by rfl, ?_⟩) ?_ ?_
                          rotate_left
                          · intro w'
                            go_simp
                            with_reducible rfl
                          rotate_left
                          · simp only [Act.put, List.setIfInBounds_toArray, List.set_cons_zero, List.set_cons_succ, i64_w, i32_w]
                            rfl
                          refine pure_ (i := 2) (N := some 87) (v := ?_) (a' := ?_) #[true, true, true, false, false, false, false, false, false] rfl rfl (any_of HT_.out (by kernel_rfl)) (fun _ _ _ h => h) (Or.inl ⟨by rfl, ?_⟩) ?_ ?_
                          rotate_left
                          · intro w'
                            go_simp
                            with_reducible rfl
                          rotate_left
                          · simp only [Act.put, List.setIfInBounds_toArray, List.set_cons_zero, List.set_cons_succ, i64_w, i32_w]
                            rfl
                          refine pure_ (i := 5) (N := some 90) (v := ?_) (a' := ?_) #[true, true, true, false, false, true, false, false, false] rfl rfl (any_of HT_.out (by kernel_rfl)) (fun _ _ _ h => h) (Or.inl ⟨by rfl, ?_⟩) ?_ ?_
                          rotate_left
                          · intro w'
                            go_simp
                            with_reducible rfl
                          rotate_left
                          · simp only [Act.put, List.setIfInBounds_toArray, List.set_cons_zero, List.set_cons_succ, i64_w, i32_w]
                            rfl
                          refine take_ (i := 3) (N := some 88) (v := ?_) (a' := ?_) #[true, true, true, true, false, true, false, false, false] rfl rfl (take_ofW HT_.out HW_.out (by kernel_rfl)) (fun _ _ _ h => h) (Or.inl ⟨by rfl, ?_⟩) hHeld ?_ ?_
                          rotate_left
                          · rintro w' ⟨s0, s1, s2, s3, s4, s5, s6, s7⟩
                            go_simp
                            with_reducible rfl
                          rotate_left
                          · simp only [Act.put, List.setIfInBounds_toArray, List.set_cons_zero, List.set_cons_succ, i64_w, i32_w]
                            rfl
                          refine take_ (i := 4) (N := some 89) (v := ?_) (a' := ?_) #[true, true, true, true, true, true, false, false, false] rfl rfl (take_ofW HT_.out HW_.out (by kernel_rfl)) (fun _ _ _ h => h) (Or.inl ⟨by rfl, ?_⟩) hHeld ?_ ?_
                          rotate_left
                          · rintro w' ⟨s0, s1, s2, s3, s4, s5, s6, s7⟩
                            go_simp
                            with_reducible rfl
                          rotate_left
                          · simp only [Act.put, List.setIfInBounds_toArray, List.set_cons_zero, List.set_cons_succ, i64_w, i32_w]
                            rfl
                          refine one_ (i := 6) (N := some 91) #[true, true, true, true, true, true, true, false, false] rfl rfl (one_of HT_.out (by kernel_rfl)) (by decide) (fun K hK => ?_)
                          refine goes_ Tryd.func32 (by kernel_rfl) rfl #[.agg #[.bool a0_0, .bool a0_1, .bool a0_2, .bool a0_3, .int .u32 a0_4, .int .u32 a0_5, .int .i64 a0_6], .int .u16 a1] (by rfl) rfl rfl (by (try simp only [List.map_toArray, List.map_cons, List.map_nil]); first | done | rfl | (simp only [List.length_drop, List.length_take]; rfl)) ?_
                          with_reducible refine (head_Put.calls kj36 a0_0 a0_1 a0_2 a0_3 a0_4 a0_5 a0_6 a1 t120 _ ?side1 A46.out).mono ?_
                          (case side1 => repeat (first | exact (GH_below HGH.out HB.out) | (with_reducible refine GH_alloc ?_ _) | (with_reducible refine GH_drewN ?_ _) | (with_reducible refine GH_drew ?_)))
                          rintro e w49 ⟨v121, rfl, ho0, hb⟩
                          have HS7_ := (hb.cell (World.block_lt_of_cell? _ _ (hHeld.2.2.2.2.2.2.2))).trans (hHeld.2.2.2.2.2.2.2)
                          refine ⟨_, rfl, ?_⟩
                          have n2_ := Aside0.mk (Kd.Q_lower ho0 (below_size (by repeat (first | (with_reducible first | exact HB.out | apply below_alloc | apply pw_below_drewN | apply below_drew1 | refine below_set ?_ GE107.out | refine below_set ?_ GE110.out) | exact HB.out))))
                          have n3_ := Aside0.mk (blk_below (g := gb107) (o := .cells #[.bool a0_0, .bool a0_1, .bool a0_2, .bool a0_3, .int .u32 a0_4, .int .u32 a0_5, .int .i64 a0_6] 24 (0, 0)) (by (with_reducible repeat (first | refine blk_drewN ?_ _ | refine blk_drew ?_ | refine blk_alloc ?_ _)); exact BK107.out) hb)
                          have n4_ := Aside0.mk (blk_below (g := gb110) (o := .cells #[.bool a0_0, .bool a0_1, .bool a0_2, .bool a0_3, .int .u32 a0_4, .int .u32 a0_5, .int .i64 a0_6] 26 (0, 0)) (by (with_reducible repeat (first | refine blk_drewN ?_ _ | refine blk_drew ?_ | refine blk_alloc ?_ _)); exact BK110.out) hb)
                          have n5_ := Aside0.mk (Kd.C_below (by repeat (first | (with_reducible exact HR119_0.out) | (with_reducible refine Kd.C_alloc ?_ _) | (with_reducible refine Kd.C_drewN ?_ _) | (with_reducible refine Kd.C_drew ?_) | exact HR119_0.out)) hb)
                          have n6_ := Aside0.mk (below_step (by repeat (first | (with_reducible first | exact HB.out | apply below_alloc | apply pw_below_drewN | apply below_drew1 | refine below_set ?_ GE107.out | refine below_set ?_ GE110.out) | exact HB.out)) hb)
                          clear BK107
                          clear BK110
                          clear HR119_0
                          clear HB
                          have HO122 := n2_
                          have BK107 := n3_
                          have BK110 := n4_
                          have HR119_0 := n5_
                          have HB := n6_
                          clear n2_ n3_ n4_ n5_ n6_
                          (try clear hb)
                          (try clear hb2)
                          (try clear hk)
                          (try clear hi)
                          (try clear ho0)
                          obtain ⟨Ao50, co50, eo50, _⟩ := Kd.Q_slice HO122.out
                          (first | subst eo50 | (injection eo50 with f1_ f2_ f3_; have f4_ := f1_.symm; have f5_ := f3_.symm; clear f1_ f2_ f3_; subst f4_; subst f5_))
                          refine hK.out _ _ ⟨(blk_cell BK110.out 0).trans rfl, (blk_cell BK110.out 1).trans rfl, (blk_cell BK110.out 2).trans rfl, (blk_cell BK110.out 3).trans rfl, (blk_cell BK110.out 4).trans rfl, (blk_cell BK110.out 5).trans rfl, (blk_cell BK110.out 6).trans rfl, HS7_⟩ (fun hHeld => ?_)
                          clear hK K
                          refine norm_ (a' := ?_) ?_ ?_
                          rotate_left
                          · show Act.put _ (some 91) _ = _
                            simp only [Act.put, List.setIfInBounds_toArray, List.set_cons_zero, List.set_cons_succ, i64_w, i32_w]
                            rfl
                          refine one_ (i := 7) (N := some 92) #[true, true, true, true, true, true, true, true, false] rfl rfl (one_of HT_.out (by kernel_rfl)) (by decide) (fun K hK => ?_)
                          refine goes_ Tryd.func31 (by kernel_rfl) rfl #[.slice A119_0 (rd_L1 (allI a0_2 a0_3 a1) (ji43)).length c119_0, .slice Ao50 t120.length co50] (by rfl) rfl rfl (by (try simp only [List.map_toArray, List.map_cons, List.map_nil]); first | done | (simp only [hji43]; rfl) | rfl | (simp only [List.length_drop, List.length_take]; rfl)) ?_
                          with_reducible refine (marlineref01_Equal.calls kj36 _ _ (rd_L1 (allI a0_2 a0_3 a1) (ji43)) _ _ t120 t123 _ ?side1 ?side2 ?side3 ?side4 A47.out).mono ?_
                          (case side1 => repeat (first | exact (by repeat (first | (with_reducible exact HR119_0.out) | (with_reducible refine Kd.C_alloc ?_ _) | (with_reducible refine Kd.C_drewN ?_ _) | (with_reducible refine Kd.C_drew ?_) | exact HR119_0.out)) | (with_reducible refine Kd.C_alloc ?_ _) | (with_reducible refine Kd.C_drewN ?_ _) | (with_reducible refine Kd.C_drew ?_)))
                          (case side2 => exact HC119_0.out)
                          (case side3 => repeat (first | exact (Kd.Q_reads' HO122.out).2.2 | (with_reducible refine Kd.C_alloc ?_ _) | (with_reducible refine Kd.C_drewN ?_ _) | (with_reducible refine Kd.C_drew ?_)))
                          (case side4 => exact (Kd.Q_reads' HO122.out).2.1)
                          rintro e w' ⟨rfl, ⟨nd, rfl⟩⟩
                          refine ⟨_, rfl, ?_⟩
                          refine hK.out _ _ ⟨(blk_cell BK110.out 0).trans rfl, (blk_cell BK110.out 1).trans rfl, (blk_cell BK110.out 2).trans rfl, (blk_cell BK110.out 3).trans rfl, (blk_cell BK110.out 4).trans rfl, (blk_cell BK110.out 5).trans rfl, (blk_cell BK110.out 6).trans rfl, hHeld.2.2.2.2.2.2.2⟩ (fun hHeld => ?_)
                          clear hK K
                          refine norm_ (a' := ?_) ?_ ?_
                          rotate_left
                          · show Act.put _ (some 92) _ = _
                            simp only [Act.put, List.setIfInBounds_toArray, List.set_cons_zero, List.set_cons_succ, i64_w, i32_w]
                            rfl
                          refine pure_ (i := 8) (N := some 6) (v := ?_) (a' := ?_) #[true, true, true, true, true, true, true, true, true] rfl rfl (any_of HT_.out (by kernel_rfl)) (fun _ _ _ h => h) (Or.inl ⟨by rfl, ?_⟩) ?_ ?_
                          rotate_left
                          · intro w'
                            go_simp
                            with_reducible rfl
                          rotate_left
                          · simp only [Act.put, List.setIfInBounds_toArray, List.set_cons_zero, List.set_cons_succ, i64_w, i32_w]
                            rfl
                          refine done_ (done_of HT_.out (by kernel_rfl)) ?_
                          try go_wp2
                          go_ret
                          exact ⟨by first | rfl | (simp [errW_none, errW_some] <;> rfl) | (simp only [← hji43]; first | rfl | (simp [errW_none, errW_some] <;> rfl)) | (simp [*, errW_none, errW_some] <;> rfl), by repeat (first | (with_reducible first | exact HB.out | apply below_alloc | apply pw_below_drewN | apply below_drew1 | refine below_set ?_ GE107.out | refine below_set ?_ GE110.out) | exact HB.out)⟩
                        · rw [if_neg c45] at H
                          exact absurd H (by simp)
                      · rw [if_neg c44] at H
                        exact absurd H (by simp)
                    · rw [if_neg c42] at H
                      have c42b0 : (a1 == 49185) = false := beq_eq_false_iff_ne.mpr c42
                      have c42b1 : (a1 != 49185) = true := bne_iff_ne.mpr c42
                      by_cases c51 : 0 < ((allI a0_2 a0_3 a1).length : Int)
                      · rw [if_pos c51] at H
                        have c51b0 : decide (0 < ((allI a0_2 a0_3 a1).length : Int)) = true := decide_eq_true c51
                        have c51b1 : decide (0 < (allI a0_2 a0_3 a1).length) = true := decide_eq_true (by omega)
                        clear c51
                        replace H := Option.bind_eq_some_iff.mp H
                        obtain ⟨t125, A520, H⟩ := H
                        replace H : ((marlineref01_Equal.f kj36 (rd_L1 (allI a0_2 a0_3 a1) 0) t125).bind fun t128 => (some t128)) = some r := H
                        have A52 := Aside0.mk A520
                        clear A520
                        replace H := Option.bind_eq_some_iff.mp H
                        obtain ⟨t128, A530, H⟩ := H
                        replace H : (some t128) = some r := H
                        have A53 := Aside0.mk A530
                        clear A530
                        obtain rfl := Option.some.inj H
                        try go_wp2
                        have n0_ := Aside0.mk (Kd.C_drew HO_14.out)
                        have n1_ := Aside0.mk (blk_drew BK107.out)
                        have n2_ := Aside0.mk (blk_drew BK110.out)
                        have n3_ := Aside0.mk (below_drew1 HB.out)
                        clear HO_14
                        clear BK107
                        clear BK110
                        clear HB
                        have HO_14 := n0_
                        have BK107 := n1_
                        have BK110 := n2_
                        have HB := n3_
                        clear n0_ n1_ n2_ n3_
                        have p124 : 0 ≤ (0 : Int) := (by omega)
                        have q124 : 0 < ((allI a0_2 a0_3 a1).length : Int) := of_decide_eq_true (by first | (with_reducible assumption) | assumption)
                        obtain ⟨ad124, A124_0, c124_0, e124, hx124_0, hl124_0, hi124_0⟩ := at_L1 HO_14.out 0 p124 q124
                        cases e124
                        have qi124 : (0 < (allI a0_2 a0_3 a1).length) = True := eq_true (by omega)
                        (try rw [show ((0 : Int)).toNat = 0 from rfl] at hx124_0)
                        (try rw [Addr.add_zero'] at hx124_0)
                        have HR124_0 := Aside0.mk hi124_0
                        have HC124_0 := Aside0.mk hl124_0
                        clear hi124_0 hl124_0
                        replace p124 := eq_true p124
                        replace q124 := eq_true q124
                        refine start_ (n := 9) (S := fun w' => w'.cell? ⟨gb110, 0, none⟩ = some (.bool a0_0) ∧ w'.cell? ⟨gb110, 1, none⟩ = some (.bool a0_1) ∧ w'.cell? ⟨gb110, 2, none⟩ = some (.bool a0_2) ∧ w'.cell? ⟨gb110, 3, none⟩ = some (.bool a0_3) ∧ w'.cell? ⟨gb110, 4, none⟩ = some (.int .u32 a0_4) ∧ w'.cell? ⟨gb110, 5, none⟩ = some (.int .u32 a0_5) ∧ w'.cell? ⟨gb110, 6, none⟩ = some (.int .i64 a0_6) ∧ w'.cell? ad124 = some (.slice A124_0 (rd_L1 (allI a0_2 a0_3 a1) 0).length c124_0)) (ds := []) #[false, false, false, false, false, false, false, false, false] (by kernel_rfl) rfl rfl ⟨(blk_cell BK110.out 0).trans rfl, (blk_cell BK110.out 1).trans rfl, (blk_cell BK110.out 2).trans rfl, (blk_cell BK110.out 3).trans rfl, (blk_cell BK110.out 4).trans rfl, (blk_cell BK110.out 5).trans rfl, (blk_cell BK110.out 6).trans rfl, hx124_0⟩ (fun hHeld => ?_); refine with_tabW marlinelaw10_HeadOne.tab22 marlinelaw10_HeadOne.bits22 (fun HT_ HW_ => ?_)
                        generalize wc.drew = w54 at HO_14 BK107 BK110 HB HR124_0 hx124_0 hHeld ⊢
                        refine pure_ (i := 0) (N := some 85) (v := ?_) (a' := ?_) #[true, false, false, false, false, false, false, false, false] rfl rfl (any_of HT_.out (by kernel_rfl)) (fun _ _ _ h => h) (Or.inl ⟨by rfl, ?_⟩) ?_ ?_
                        rotate_left
                        · intro w'
                          go_simp
                          with_reducible rfl
                        rotate_left
                        · simp only [Act.put, List.setIfInBounds_toArray, List.set_cons_zero, List.set_cons_succ, i64_w, i32_w]
                          rfl
                        refine pure_ (i := 1) (N := some 86) (v := ?_) (a' := ?_) #[true, true, false, false, false, false, false, false, false] rfl rfl (any_of HT_.out (by kernel_rfl)) (fun _ _ _ h => h) (Or.inl ⟨by rfl, ?_⟩) ?_ ?_
                        rotate_left
                        · intro w'
                          go_simp
                          with_reducible rfl
                        rotate_left
                        · simp only [Act.put, List.setIfInBounds_toArray, List.set_cons_zero, List.set_cons_succ, i64_w, i32_w]
                          rfl
                        refine pure_ (i := 2) (N := some 87) (v := ?_) (a' := ?_) #[true, true, true, false, false, false, false, false, false] rfl rfl (any_of HT_.out (by kernel_rfl)) (fun _ _ _ h => h) (Or.inl ⟨by rfl, ?_⟩) ?_ ?_
                        rotate_left
                        · intro w'
                          go_simp
                          with_reducible rfl
                        rotate_left
                        · simp only [Act.put, List.setIfInBounds_toArray, List.set_cons_zero, List.set_cons_succ, i64_w, i32_w]
                          rfl
                        refine pure_ (i := 5) (N := some 90) (v := ?_) (a' := ?_) #[true, true, true, false, false, true, false, false, false] rfl rfl (any_of HT_.out (by kernel_rfl)) (fun _ _ _ h => h) (Or.inl ⟨by rfl, ?_⟩) ?_ ?_
                        rotate_left
                        · intro w'
                          go_simp
                          with_reducible rfl
                        rotate_left
                        · simp only [Act.put, List.setIfInBounds_toArray, List.set_cons_zero, List.set_cons_succ, i64_w, i32_w]
                          rfl
                        refine take_ (i := 3) (N := some 88) (v := ?_) (a' := ?_) #[true, true, true, true, false, true, false, false, false] rfl rfl (take_ofW HT_.out HW_.out (by kernel_rfl)) (fun _ _ _ h => h) (Or.inl ⟨by rfl, ?_⟩) hHeld ?_ ?_
                        rotate_left
                        · rintro w' ⟨s0, s1, s2, s3, s4, s5, s6, s7⟩
                          go_simp
                          with_reducible rfl
                        rotate_left
                        · simp only [Act.put, List.setIfInBounds_toArray, List.set_cons_zero, List.set_cons_succ, i64_w, i32_w]
                          rfl
                        refine take_ (i := 4) (N := some 89) (v := ?_) (a' := ?_) #[true, true, true, true, true, true, false, false, false] rfl rfl (take_ofW HT_.out HW_.out (by kernel_rfl)) (fun _ _ _ h => h) (Or.inl ⟨by rfl, ?_⟩) hHeld ?_ ?_
                        rotate_left
                        · rintro w' ⟨s0, s1, s2, s3, s4, s5, s6, s7⟩
                          go_simp
                          with_reducible rfl
                        rotate_left
                        · simp only [Act.put, List.setIfInBounds_toArray, List.set_cons_zero, List.set_cons_succ, i64_w, i32_w]
                          rfl
                        refine one_ (i := 6) (N := some 91) #[true, true, true, true, true, true, true, false, false] rfl rfl (one_of HT_.out (by kernel_rfl)) (by decide) (fun K hK => ?_)
                        refine goes_ Tryd.func32 (by kernel_rfl) rfl #[.agg #[.bool a0_0, .bool a0_1, .bool a0_2, .bool a0_3, .int .u32 a0_4, .int .u32 a0_5, .int .i64 a0_6], .int .u16 a1] (by rfl) rfl rfl (by (try simp only [List.map_toArray, List.map_cons, List.map_nil]); first | done | rfl | (simp only [List.length_drop, List.length_take]; rfl)) ?_
                        with_reducible refine (head_Put.calls kj36 a0_0 a0_1 a0_2 a0_3 a0_4 a0_5 a0_6 a1 t125 _ ?side1 A52.out).mono ?_
                        (case side1 => repeat (first | exact (GH_below HGH.out HB.out) | (with_reducible refine GH_alloc ?_ _) | (with_reducible refine GH_drewN ?_ _) | (with_reducible refine GH_drew ?_)))
                        rintro e w55 ⟨v126, rfl, ho0, hb⟩
                        have HS7_ := (hb.cell (World.block_lt_of_cell? _ _ (hHeld.2.2.2.2.2.2.2))).trans (hHeld.2.2.2.2.2.2.2)
                        refine ⟨_, rfl, ?_⟩
                        have n2_ := Aside0.mk (Kd.Q_lower ho0 (below_size (by repeat (first | (with_reducible first | exact HB.out | apply below_alloc | apply pw_below_drewN | apply below_drew1 | refine below_set ?_ GE107.out | refine below_set ?_ GE110.out) | exact HB.out))))
                        have n3_ := Aside0.mk (blk_below (g := gb107) (o := .cells #[.bool a0_0, .bool a0_1, .bool a0_2, .bool a0_3, .int .u32 a0_4, .int .u32 a0_5, .int .i64 a0_6] 24 (0, 0)) (by (with_reducible repeat (first | refine blk_drewN ?_ _ | refine blk_drew ?_ | refine blk_alloc ?_ _)); exact BK107.out) hb)
                        have n4_ := Aside0.mk (blk_below (g := gb110) (o := .cells #[.bool a0_0, .bool a0_1, .bool a0_2, .bool a0_3, .int .u32 a0_4, .int .u32 a0_5, .int .i64 a0_6] 26 (0, 0)) (by (with_reducible repeat (first | refine blk_drewN ?_ _ | refine blk_drew ?_ | refine blk_alloc ?_ _)); exact BK110.out) hb)
                        have n5_ := Aside0.mk (Kd.C_below (by repeat (first | (with_reducible exact HR124_0.out) | (with_reducible refine Kd.C_alloc ?_ _) | (with_reducible refine Kd.C_drewN ?_ _) | (with_reducible refine Kd.C_drew ?_) | exact HR124_0.out)) hb)
                        have n6_ := Aside0.mk (below_step (by repeat (first | (with_reducible first | exact HB.out | apply below_alloc | apply pw_below_drewN | apply below_drew1 | refine below_set ?_ GE107.out | refine below_set ?_ GE110.out) | exact HB.out)) hb)
                        clear BK107
                        clear BK110
                        clear HR124_0
                        clear HB
                        have HO127 := n2_
                        have BK107 := n3_
                        have BK110 := n4_
                        have HR124_0 := n5_
                        have HB := n6_
                        clear n2_ n3_ n4_ n5_ n6_
                        (try clear hb)
                        (try clear hb2)
                        (try clear hk)
                        (try clear hi)
                        (try clear ho0)
                        obtain ⟨Ao56, co56, eo56, _⟩ := Kd.Q_slice HO127.out
                        (first | subst eo56 | (injection eo56 with f1_ f2_ f3_; have f4_ := f1_.symm; have f5_ := f3_.symm; clear f1_ f2_ f3_; subst f4_; subst f5_))
                        refine hK.out _ _ ⟨(blk_cell BK110.out 0).trans rfl, (blk_cell BK110.out 1).trans rfl, (blk_cell BK110.out 2).trans rfl, (blk_cell BK110.out 3).trans rfl, (blk_cell BK110.out 4).trans rfl, (blk_cell BK110.out 5).trans rfl, (blk_cell BK110.out 6).trans rfl, HS7_⟩ (fun hHeld => ?_)
                        clear hK K
                        refine norm_ (a' := ?_) ?_ ?_
                        rotate_left
                        · show Act.put _ (some 91) _ = _
                          simp only [Act.put, List.setIfInBounds_toArray, List.set_cons_zero, List.set_cons_succ, i64_w, i32_w]
                          rfl
                        refine one_ (i := 7) (N := some 92) #[true, true, true, true, true, true, true, true, false] rfl rfl (one_of HT_.out (by kernel_rfl)) (by decide) (fun K hK => ?_)
                        refine goes_ Tryd.func31 (by kernel_rfl) rfl #[.slice A124_0 (rd_L1 (allI a0_2 a0_3 a1) 0).length c124_0, .slice Ao56 t125.length co56] (by rfl) rfl rfl (by (try simp only [List.map_toArray, List.map_cons, List.map_nil]); first | done | rfl | (simp only [List.length_drop, List.length_take]; rfl)) ?_
                        with_reducible refine (marlineref01_Equal.calls kj36 _ _ (rd_L1 (allI a0_2 a0_3 a1) 0) _ _ t125 t128 _ ?side1 ?side2 ?side3 ?side4 A53.out).mono ?_
                        (case side1 => repeat (first | exact (by repeat (first | (with_reducible exact HR124_0.out) | (with_reducible refine Kd.C_alloc ?_ _) | (with_reducible refine Kd.C_drewN ?_ _) | (with_reducible refine Kd.C_drew ?_) | exact HR124_0.out)) | (with_reducible refine Kd.C_alloc ?_ _) | (with_reducible refine Kd.C_drewN ?_ _) | (with_reducible refine Kd.C_drew ?_)))
                        (case side2 => exact HC124_0.out)
                        (case side3 => repeat (first | exact (Kd.Q_reads' HO127.out).2.2 | (with_reducible refine Kd.C_alloc ?_ _) | (with_reducible refine Kd.C_drewN ?_ _) | (with_reducible refine Kd.C_drew ?_)))
                        (case side4 => exact (Kd.Q_reads' HO127.out).2.1)
                        rintro e w' ⟨rfl, ⟨nd, rfl⟩⟩
                        refine ⟨_, rfl, ?_⟩
                        refine hK.out _ _ ⟨(blk_cell BK110.out 0).trans rfl, (blk_cell BK110.out 1).trans rfl, (blk_cell BK110.out 2).trans rfl, (blk_cell BK110.out 3).trans rfl, (blk_cell BK110.out 4).trans rfl, (blk_cell BK110.out 5).trans rfl, (blk_cell BK110.out 6).trans rfl, hHeld.2.2.2.2.2.2.2⟩ (fun hHeld => ?_)
                        clear hK K
                        refine norm_ (a' := ?_) ?_ ?_
                        rotate_left
                        · show Act.put _ (some 92) _ = _
                          simp only [Act.put, List.setIfInBounds_toArray, List.set_cons_zero, List.set_cons_succ, i64_w, i32_w]
                          rfl
                        refine pure_ (i := 8) (N := some 6) (v := ?_) (a' := ?_) #[true, true, true, true, true, true, true, true, true] rfl rfl (any_of HT_.out (by kernel_rfl)) (fun _ _ _ h => h) (Or.inl ⟨by rfl, ?_⟩) ?_ ?_
                        rotate_left
                        · intro w'
                          go_simp
                          with_reducible rfl
                        rotate_left
                        · simp only [Act.put, List.setIfInBounds_toArray, List.set_cons_zero, List.set_cons_succ, i64_w, i32_w]
                          rfl
                        refine done_ (done_of HT_.out (by kernel_rfl)) ?_
                        try go_wp2
                        go_ret
                        exact ⟨by first | rfl | (simp [errW_none, errW_some] <;> rfl) | (simp [*, errW_none, errW_some] <;> rfl), by repeat (first | (with_reducible first | exact HB.out | apply below_alloc | apply pw_below_drewN | apply below_drew1 | refine below_set ?_ GE107.out | refine below_set ?_ GE110.out) | exact HB.out)⟩
                      · rw [if_neg c51] at H
                        exact absurd H (by simp)
            · replace c36 := Bool.eq_false_iff.mpr c36
              subst c36
              have H1 : (some true) = some r := by rw [if_neg (show ¬ (false = true) by decide)] at H; exact H
              clear H
              have H := H1
              clear H1
              obtain rfl := Option.some.inj H
              go_wp2_with (first | ((with_reducible refine gate_callee (f := 34) rfl ?_); refine goesL_ (some 67) rfl rfl Tryd.func34 (by kernel_rfl) rfl #[.int .i64 (wrap64 (a1))] rfl (by (try simp only [List.map_toArray, List.map_cons, List.map_nil]); first | done | rfl | (simp only [List.length_drop, List.length_take]; rfl)) ?_; (with_reducible refine (marlineref09_Right.calls (wrap64 (a1)) false _ A35.out).mono ?_); rintro e w' ⟨rfl, ⟨nd, rfl⟩⟩; refine ⟨_, rfl, ?_⟩))
              go_ret
              exact ⟨by first | rfl | (simp [errW_none, errW_some] <;> rfl) | (simp [*, errW_none, errW_some] <;> rfl), by repeat (first | (with_reducible first | exact HB.out | apply below_alloc | apply pw_below_drewN | apply below_drew1 | refine below_set ?_ GE107.out | refine below_set ?_ GE110.out) | exact HB.out)⟩
end Go.Proofs.YtggpejjfgphihaaDoor.X
end

section
namespace Go.Proofs.YtggpejjfgphihaaDoor.Pu
open Go.RowKit Go.Proofs.YtggpejjfgphihaaDoorW.PrintWords Go.Proofs.YtggpejjfgphihaaDoorW.PrintLast Go.Proofs.YtggpejjfgphihaaDoorW.PrintMore
open Go.Proofs.YtggpejjfgphihaaDoor.Given Go.Proofs.YtggpejjfgphihaaDoor.D Go.Proofs.YtggpejjfgphihaaDoor.H Go.Proofs.YtggpejjfgphihaaDoor.B
set_option linter.unusedVariables false
set_option linter.unusedSimpArgs false
theorem getN_row (l : List Nat) (hl : ∀ x ∈ l, x < 256) (s : Bool) (h : (getN l s).2.2 = 0) :
    l.take (getN l s).2.1 = numN (getN l s).1 false ∨ (s = true ∧ (getN l s).1 < 256 ∧ l.take (getN l s).2.1 = numN (getN l s).1 true) := by
  match l, hl with
  | [], _ => exact absurd h (by simp [getN])
  | [c], hl =>
    have hc := hl c (by simp)
    rw [getN_one] at h ⊢
    by_cases h0 : c % 2 = 0
    · rw [if_pos h0] at h; exact absurd h (by simp)
    · rw [if_neg h0] at h ⊢
      by_cases h1 : right c = true ∧ s = true
      · rw [if_pos h1]
        exact Or.inr ⟨h1.2, hc, by simp [numN, hc, Nat.mod_eq_of_lt hc]⟩
      · rw [if_neg h1] at h; exact absurd h (by simp)
  | c :: d :: l, hl =>
    have hc := hl c (by simp)
    have hd := hl d (by simp)
    rw [getN_two] at h ⊢
    by_cases h0 : c % 2 = 0
    · rw [if_pos h0] at h ⊢
      by_cases h1 : right (256 * c + d) = true
      · rw [if_pos h1]
        refine Or.inl ?_
        have e1 : (256 * c + d) / 256 = c := by omega
        have e2 : (256 * c + d) % 256 = d := by omega
        simp [numN, e1, e2]
      · rw [if_neg h1] at h; exact absurd h (by simp)
    · rw [if_neg h0] at h ⊢
      by_cases h1 : right c = true ∧ s = true
      · rw [if_pos h1]
        exact Or.inr ⟨h1.2, hc, by simp [numN, hc, Nat.mod_eq_of_lt hc]⟩
      · rw [if_neg h1] at h; exact absurd h (by simp)
theorem mem_if (c : Bool) (X : List Nat) (h : c = true) : X ∈ (if c = true then [X] else []) := by rw [if_pos h]; simp
theorem getHead_row (a b : Bool) (L : List Nat) (hL : ∀ x ∈ L, x < 256) (h : (getHead a b L).2.2 = 0) : L.take (getHead a b L).2.1 ∈ allN a b (getHead a b L).1 := by
  unfold getHead at h ⊢
  by_cases h1 : begins L = false ∧ a = false
  · rw [if_pos h1] at h; exact absurd h (by simp)
  rw [if_neg h1] at h ⊢
  by_cases hb : begins L = true
  · have hr := getN_row (L.drop 2) (fun x hx => hL x (List.mem_of_mem_drop hx)) b
    have hL2 : ∃ R, L = 255 :: 3 :: R := by
      match L, hb with
      | x :: y :: R, hb =>
        simp only [begins, Bool.and_eq_true, decide_eq_true_eq] at hb
        exact ⟨R, by rw [hb.1, hb.2]⟩
    obtain ⟨R, rfl⟩ := hL2
    have e2 : (255 :: 3 :: R).drop 2 = R := rfl
    rw [if_pos hb, e2] at h ⊢
    rw [e2] at hr
    rw [if_pos hb]
    generalize getN R b = t at h hr ⊢
    obtain ⟨q, m, e⟩ := t
    by_cases he : e = 0
    · subst he
      have hr := hr rfl
      simp only [if_true]
      have e3 : (255 :: 3 :: R).take (2 + m) = 255 :: 3 :: R.take m := by rw [Nat.add_comm]; rfl
      rw [e3]
      unfold allN
      rcases hr with hr | ⟨hs, hq, hr⟩
      · simp only at hr; rw [hr]; simp
      · simp only at hr hq; rw [hr]
        refine List.mem_append_right _ (List.mem_append_right _ (List.mem_append_left _ (mem_if _ _ (by simp [hs, hq]))))
    · have : ¬ ((q, m, e) : Nat × Nat × Nat).2.2 = 0 := he
      simp only [if_neg he] at h
      exact absurd h (by simp)
  · have ha : a = true := by
      cases a
      · exact absurd ⟨by simpa using hb, rfl⟩ h1
      · rfl
    have hr := getN_row L hL b
    rw [if_neg hb] at h ⊢
    rw [if_neg hb]
    generalize getN L b = t at h hr ⊢
    obtain ⟨q, m, e⟩ := t
    by_cases he : e = 0
    · subst he
      have hr := hr rfl
      simp only [if_true, Nat.zero_add]
      unfold allN
      rcases hr with hr | ⟨hs, hq, hr⟩
      · simp only at hr; rw [hr]
        exact List.mem_append_right _ (List.mem_append_left _ (mem_if _ _ ha))
      · simp only at hr hq; rw [hr]
        exact List.mem_append_left _ (mem_if _ _ (by simp [hs, hq, ha]))
    · simp only [if_neg he] at h
      exact absurd h (by simp)
theorem allI_nat (a b : Bool) (P : Nat) : allI a b (P : Int) = (allN a b P).map ofN := rfl
theorem allI_len (a b : Bool) (P : Nat) : (allI a b (P : Int)).length = (allN a b P).length := by rw [allI_nat, List.length_map]
theorem rd_nat (a b : Bool) (q j : Nat) (hj : j < (allN a b q).length) : X.rd_L1 (allI a b (q : Int)) (j : Int) = ofN (allN a b q)[j] := by
  unfold X.rd_L1
  rw [allI_nat, Int.toNat_natCast, List.getD_eq_getElem?_getD, List.getElem?_eq_getElem (by simpa using hj)]
  simp
theorem row_first (a b : Bool) (P : Nat) (hp : P ≠ 49185) : X.rd_L1 (allI a b (P : Int)) 0 = ofN (headN a b P) := by
  unfold X.rd_L1
  rw [allI_nat]
  have hnum : ¬ P < 256 → numN P true = numN P false := by intro h; simp [numN, h]
  by_cases h : P < 256
  · cases a <;> cases b <;> simp [allN, headN, hp, h]
  · cases a <;> cases b <;> simp [allN, headN, hp, h, hnum h]
theorem row_last (a b : Bool) : X.rd_L1 (allI a b 49185) (wrap64 (((allI a b 49185).length : Int) - 1)) = ofN (headN a b 49185) := by
  cases a <;> cases b <;> decide +kernel
theorem len_last (a b : Bool) : 0 ≤ wrap64 (((allI a b 49185).length : Int) - 1) ∧ wrap64 (((allI a b 49185).length : Int) - 1) < ((allI a b 49185).length : Int) := by
  cases a <;> cases b <;> decide +kernel
theorem get_good (a0 a1 a b : Bool) (c4 c5 c6 : Int) (L : List Nat) (hL : ∀ x ∈ L, x < 256) (hlen : L.length < 4611686018427387904) (kk : Nat) (q n : Int) (h : head_Get.f kk a0 a1 a b c4 c5 c6 (ofN L) = some (q, n, 0)) : 0 ≤ q ∧ q < 65536 ∧ right q.toNat = true := by
  have h3 : head_Get.f (kk + 3) a0 a1 a b c4 c5 c6 (ofN L) = some (q, n, 0) := head_Get.mono _ _ _ _ _ _ _ _ _ _ (head_Get.mono _ _ _ _ _ _ _ _ _ _ (head_Get.mono _ _ _ _ _ _ _ _ _ _ h))
  rw [f_getHead kk a0 a1 a b c4 c5 c6 L hL hlen] at h3
  have ho := (getHead_out a b L hL).2
  generalize getHead a b L = t at h3 ho
  obtain ⟨t1, t2, t3⟩ := t
  have h4 := Option.some.inj h3
  simp only [tri, Prod.mk.injEq] at h4
  obtain ⟨rfl, rfl, h5⟩ := h4
  have ho := ho (by simp only; omega)
  simp only at ho
  exact ⟨by omega, by omega, ho.1⟩
theorem one_j2 (k : Nat) (a0 a1 a b : Bool) (c4 c5 c6 : Int) (P : Nat) (hP : P < 65536) : X.marlinelaw10_HeadOne.j2 (k + 50) (P : Int) a0 a1 a b c4 c5 c6 = some true := by
  have hl := allN_len a b P
  have hll := allI_len a b P
  have p1 := f_head (k + 45) P hP a0 a1 a b c4 c5 c6
  have hq := r_Equal (k + 48) (headN a b P) (headN a b P) (by have := headN_size a b P; omega) (by have := headN_size a b P; omega)
  simp only [X.marlinelaw10_HeadOne.j2]
  rw [w64 P (by omega), r_Right P hP, Option.bind_some]
  by_cases hr : right P = true
  · rw [if_pos hr, if_neg (by rw [hll]; omega), decide_eq_false (by rw [hll]; omega)]
    simp only [X.marlinelaw10_HeadOne.j3]
    rw [if_neg (by simp)]
    by_cases he : P = 49185
    · subst he
      have hb := len_last a b
      have hrow := row_last a b
      rw [if_pos (by rfl)]
      rw [show ((49185 : Nat) : Int) = 49185 from rfl] at p1 ⊢
      rw [if_pos hb.1, if_pos hb.2, p1, Option.bind_some, hrow, hq, Option.bind_some]
      simp
    · rw [if_neg (by omega), if_pos (by rw [hll]; omega), p1, Option.bind_some, row_first a b P he, hq, Option.bind_some]
      simp
  · rw [if_neg hr]
theorem l0_end (K : Nat) (x1 : Int) (x2 : List Int) (x8 x9 x37 x38 : Int) (a0 a1 a b : Bool) (c4 c5 c6 : Int) (h1 : ¬ x38 < x37) (h2 : marlineref09_Right.f (wrap64 x8) = some true) :
    X.marlinelaw10_HeadOne.l0 (K + 1) x1 x2 x8 x9 true x37 x38 a0 a1 a b c4 c5 c6 = X.marlinelaw10_HeadOne.j2 K x1 a0 a1 a b c4 c5 c6 := by
  simp only [X.marlinelaw10_HeadOne.l0]
  rw [if_neg h1, if_pos trivial, h2, Option.bind_some, if_pos rfl]
theorem l0_true (K : Nat) (x1 : Int) (x2 : List Int) (x8 x9 x37 x38 : Int) (a0 a1 a b : Bool) (c4 c5 c6 : Int) (h1 : x38 < x37) (h2 : 0 ≤ x38) (h3 : x38 < ((allI a b x8).length : Int)) :
    X.marlinelaw10_HeadOne.l0 (K + 1) x1 x2 x8 x9 true x37 x38 a0 a1 a b c4 c5 c6 = X.marlinelaw10_HeadOne.l0 K x1 x2 x8 x9 true x37 (wrap64 (x38 + 1)) a0 a1 a b c4 c5 c6 := by
  simp only [X.marlinelaw10_HeadOne.l0]
  rw [if_pos h1, if_pos h2, if_pos h3, if_pos trivial]
theorem l0_false (K : Nat) (x1 : Int) (x2 : List Int) (x8 x9 x37 x38 : Int) (a0 a1 a b : Bool) (c4 c5 c6 : Int) (r : Bool) (h1 : x38 < x37) (h2 : 0 ≤ x38) (h3 : x38 < ((allI a b x8).length : Int)) (h4 : x9 ≤ (x2.length : Int)) (h5 : 0 ≤ x9) (h6 : marlineref01_Equal.f K (X.rd_L1 (allI a b x8) x38) (x2.take x9.toNat) = some r) :
    X.marlinelaw10_HeadOne.l0 (K + 1) x1 x2 x8 x9 false x37 x38 a0 a1 a b c4 c5 c6 = X.marlinelaw10_HeadOne.l0 K x1 x2 x8 x9 r x37 (wrap64 (x38 + 1)) a0 a1 a b c4 c5 c6 := by
  simp only [X.marlinelaw10_HeadOne.l0]
  rw [if_pos h1, if_pos h2, if_pos h3, if_neg (by simp), if_pos h4, if_pos h5, h6, Option.bind_some]
theorem one_l0 (a0 a1 a b : Bool) (c4 c5 c6 : Int) (P : Nat) (hP : P < 65536) (L : List Nat) (hlen : L.length ≤ 100) (q n : Nat) (hq : q < 65536) (hr : right q = true) (hn : n ≤ L.length) (i0 : Nat) (hi : i0 < (allN a b q).length) (hrow : (allN a b q)[i0] = L.take n) :
    ∀ (d j k : Nat) (s : Bool), j + d = (allN a b q).length → (s = true ∨ j ≤ i0) →
      X.marlinelaw10_HeadOne.l0 (k + 51 + d) (P : Int) (ofN L) (q : Int) (n : Int) s ((allI a b (q : Int)).length : Int) (j : Int) a0 a1 a b c4 c5 c6 = some true := by
  have hll := allI_len a b q
  have h4 := allN_len a b q
  intro d
  induction d with
  | zero =>
    intro j k s hj hs
    have hs : s = true := by rcases hs with h | h; exact h; omega
    subst hs
    rw [show k + 51 + 0 = (k + 50) + 1 from rfl, l0_end (k + 50) _ _ _ _ _ _ _ _ _ _ _ _ _ (by rw [hll]; omega) (by rw [w64 q (by omega), r_Right q hq, hr])]
    exact one_j2 k a0 a1 a b c4 c5 c6 P hP
  | succ d ih =>
    intro j k s hj hs
    have hjl : j < (allN a b q).length := by omega
    have hw : wrap64 ((j : Int) + 1) = ((j + 1 : Nat) : Int) := by unfold wrap64; omega
    have g1 : (j : Int) < ((allI a b (q : Int)).length : Int) := by rw [hll]; omega
    rw [show k + 51 + (d + 1) = (k + 51 + d) + 1 from rfl]
    cases s
    · have hx := allN_each a b q hq _ (List.getElem_mem hjl)
      have hE : marlineref01_Equal.f (k + 51 + d) (X.rd_L1 (allI a b (q : Int)) (j : Int)) ((ofN L).take ((n : Int)).toNat) = some (decide ((allN a b q)[j] = L.take n)) := by
        rw [rd_nat a b q j hjl, Int.toNat_natCast, ofN_take, r_Equal (k + 51 + d) _ _ (by omega) (by omega)]
      rw [l0_false (k + 51 + d) _ _ _ _ _ _ _ _ _ _ _ _ _ _ g1 (by omega) g1 (by rw [ofN_length]; omega) (by omega) hE, hw]
      refine ih (j + 1) k _ (by omega) ?_
      by_cases he : (allN a b q)[j] = L.take n
      · exact Or.inl (decide_eq_true he)
      · refine Or.inr ?_
        rcases hs with h | h
        · exact absurd h (by simp)
        · by_cases e : j = i0
          · subst e; exact absurd hrow he
          · omega
    · rw [l0_true (k + 51 + d) _ _ _ _ _ _ _ _ _ _ _ _ _ g1 (by omega) g1, hw]
      exact ih (j + 1) k true (by omega) (Or.inl rfl)
theorem headOne_f (a0 a1 a b : Bool) (c4 c5 c6 : Int) (x : Int) (hx : 0 ≤ x ∧ x < 65536) (l : List Int) (hl : l.all okByte = true) : X.marlinelaw10_HeadOne.f 201 a0 a1 a b c4 c5 c6 x l = some true := by
  have hB := bytes_ofH hl
  rw [ofN_of hl]
  generalize l.map Int.toNat = L at *
  obtain ⟨P, rfl⟩ := Int.eq_ofNat_of_zero_le hx.1
  have hP : P < 65536 := by omega
  unfold X.marlinelaw10_HeadOne.f
  rw [speaks10 191, Option.bind_some, if_pos rfl]
  by_cases hlen : ((ofN L).length : Int) > 100
  · rw [decide_eq_true hlen]
    simp only [X.marlinelaw10_HeadOne.j0]
    rw [if_pos trivial, speaks10 190]
    rfl
  · rw [decide_eq_false hlen]
    have hlen2 := hlen
    rw [ofN_length] at hlen2
    have g1 := f_getHead 197 a0 a1 a b c4 c5 c6 L hB (by omega)
    have gl := getHead_num_lt a b L hB
    have go := (getHead_out a b L hB).2
    have gr := getHead_row a b L hB
    simp only [X.marlinelaw10_HeadOne.j0]
    rw [if_neg (show ¬ (false = true) by decide), if_neg hlen, g1, Option.bind_some]
    generalize getHead a b L = t at gl go gr ⊢
    obtain ⟨q, n, e⟩ := t
    by_cases he : e = 0
    · subst he
      have go := go rfl
      have gr := gr rfl
      simp only at go gr gl
      rw [if_pos (show (tri (q, n, 0)).2.2 = 0 from rfl)]
      show X.marlinelaw10_HeadOne.l0 200 (P : Int) (ofN L) (q : Int) (n : Int) false ((allI a b (q : Int)).length : Int) ((0 : Nat) : Int) a0 a1 a b c4 c5 c6 = some true
      obtain ⟨i0, hi, hrow⟩ := List.getElem_of_mem gr
      have h4 := allN_len a b q
      have e200 : (200 : Nat) = (149 - (allN a b q).length) + 51 + (allN a b q).length := by omega
      rw [e200]
      exact one_l0 a0 a1 a b c4 c5 c6 P hP L (by omega) q n gl go.1 go.2.2.1 i0 hi hrow (allN a b q).length 0 _ false (by omega) (Or.inr (by omega))
    · rw [if_neg (show ¬ (tri (q, n, e)).2.2 = 0 from by simp only [tri]; omega)]
      exact one_j2 150 a0 a1 a b c4 c5 c6 P hP
end Go.Proofs.YtggpejjfgphihaaDoor.Pu
end

section
namespace Go.Proofs.YtggpejjfgphihaaDoor.Wk
open Go.Proofs.YtggpejjfgphihaaDoor.Given Go.Proofs.YtggpejjfgphihaaDoor.Pu Go.RowKit Go.Proofs.YtggpejjfgphihaaDoorW.PrintWords
set_option linter.unusedVariables false
theorem hone_walk (a0 a1 a2 a3 : Bool) (a4 a5 a6 : Int) (x : Int) (A : Option Addr) (cap : Nat) (l : List Int) (w : World) (hgH : GH w) (h4 : 0 ≤ a4 ∧ a4 < 4294967296) (h5 : 0 ≤ a5 ∧ a5 < 4294967296) (h6 : -9223372036854775808 ≤ a6 ∧ a6 ≤ 9223372036854775807)
    (hx : 0 ≤ x ∧ x < 65536) (hr : Kd.C (Kd.int .u8) w A l.length l) (hc : l.length ≤ cap) (hb : l.all okByte = true) :
    Calls Tryd.prog 7 #[.agg #[.bool a0, .bool a1, .bool a2, .bool a3, .int .u32 a4, .int .u32 a5, .int .i64 a6], .int .u16 x, .slice A l.length cap] w fun e w' => e = .returned (.bool true) ∧ Below w.heap.size w w' := by
  refine X.marlinelaw10_HeadOne.calls 201 a0 a1 a2 a3 a4 a5 a6 x A cap l true w hr hc hgH hx ?_ (headOne_f a0 a1 a2 a3 a4 a5 a6 x hx l hb)
  intro hlen kk q n h
  rw [ofN_of hb] at hlen h
  rw [ofN_length] at hlen
  exact get_good a0 a1 a2 a3 a4 a5 a6 _ (bytes_ofH hb) (by omega) kk q n h
end Go.Proofs.YtggpejjfgphihaaDoor.Wk
end
