-- Printed by the session's own turn of the kit's print program (wip/pprint.py): not trusted, Lean checks it.
import Derived.Test.YtggpejjfgphihaaDoorBx0
import Derived.Test.YtggpejjfgphihaaDoorBx1
namespace Go.Proofs.YtggpejjfgphihaaDoor.B
open Go.Proofs.YtggpejjfgphihaaDoor.Given Go.Proofs.YtggpejjfgphihaaDoor.D Go.Proofs.YtggpejjfgphihaaDoor.H Go.RowKit Go.Proofs.YtggpejjfgphihaaDoorW.PrintWords Go.Proofs.YtggpejjfgphihaaDoorW.PrintLast Go.Proofs.YtggpejjfgphihaaDoorW.PrintMore
attribute [local go_sem] max2_int min2_int max_two min_two max_three min_three max_four min_four   -- for this text's walks alone
set_option linter.unusedVariables false
set_option linter.unusedSimpArgs false

/-! ### marlinelaw10_HeadBack: function 12 -/
mutual
def marlinelaw10_HeadBack.j0 : Nat → Int → List Int → Bool → Bool → Bool → Bool → Bool → Bool → Bool → Int → Int → Int → Option (Bool)
  | 0, _, _, _, _, _, _, _, _, _, _, _, _ => none
  | k + 1, x1, x2, x3, x4, x30, x116000, x116001, x116002, x116003, x116004, x116005, x116006 => if x30 = true then ((marlinelaw10_speaks.f k).bind fun t118 => (some t118)) else ((head_Put.f k x116000 x116001 x116002 x116003 x116004 x116005 x116006 x1).bind fun t119 => (if x116002 = true then (marlinelaw10_HeadBack.j1 k x1 x2 x4 t119 x116000 x116001 x116002 x116003 x116004 x116005 x116006 x116000 x116001 true x116003 x116004 x116005 x116006) else (marlinelaw10_HeadBack.j1 k x1 x2 x4 t119 x116000 x116001 x116002 x116003 x116004 x116005 x116006 x116000 x116001 x3 x116003 x116004 x116005 x116006)))
def marlinelaw10_HeadBack.j1 : Nat → Int → List Int → Bool → List Int → Bool → Bool → Bool → Bool → Int → Int → Int → Bool → Bool → Bool → Bool → Int → Int → Int → Option (Bool)
  | 0, _, _, _, _, _, _, _, _, _, _, _, _, _, _, _, _, _, _ => none
  | k + 1, x1, x2, x4, x11, x116000, x116001, x116002, x116003, x116004, x116005, x116006, x123000, x123001, x123002, x123003, x123004, x123005, x123006 => if x116003 = true then (marlinelaw10_HeadBack.j2 k x1 x2 x11 x116000 x116001 x116002 x116003 x116004 x116005 x116006 x123000 x123001 x123002 true x123004 x123005 x123006) else (marlinelaw10_HeadBack.j2 k x1 x2 x11 x116000 x116001 x116002 x116003 x116004 x116005 x116006 x123000 x123001 x123002 x4 x123004 x123005 x123006)
def marlinelaw10_HeadBack.j2 : Nat → Int → List Int → List Int → Bool → Bool → Bool → Bool → Int → Int → Int → Bool → Bool → Bool → Bool → Int → Int → Int → Option (Bool)
  | 0, _, _, _, _, _, _, _, _, _, _, _, _, _, _, _, _, _ => none
  | k + 1, x1, x2, x11, x116000, x116001, x116002, x116003, x116004, x116005, x116006, x123000, x123001, x123002, x123003, x123004, x123005, x123006 => (some (([(⟨x116000, x116001, x116002, x116003, x116004, x116005, x116006⟩ : S24), (⟨x123000, x123001, x123002, x123003, x123004, x123005, x123006⟩ : S24)] : List (S24)) : List (S24))).bind fun y123 => (marlinelaw10_HeadBack.l0 k x1 x2 x11 y123 (y123.length : Int) 0)
def marlinelaw10_HeadBack.l0 : Nat → Int → List Int → List Int → List (S24) → Int → Int → Option (Bool)
  | 0, _, _, _, _, _, _ => none
  | k + 1, x1, x2, x11, x50, x51, x52 => if x52 < x51 then (if 0 ≤ x52 then (if x52 < (x50.length : Int) then ((some (([] : List Int) : List Int)).bind fun y128 => (if y128.length + x11.length < 140737488355328 then ((some (y128 ++ x11 : List Int)).bind fun y131 => (if y131.length + x2.length < 140737488355328 then ((head_Get.f k ((rd_T24 x50 x52).f0) ((rd_T24 x50 x52).f1) ((rd_T24 x50 x52).f2) ((rd_T24 x50 x52).f3) ((rd_T24 x50 x52).f4) ((rd_T24 x50 x52).f5) ((rd_T24 x50 x52).f6) (y131 ++ x2)).bind fun bt137 => (if bt137.2.2 = 0 then (if bt137.1 = x1 then (if bt137.2.1 = (x11.length : Int) then (marlinelaw10_HeadBack.l0 k x1 x2 x11 x50 x51 (wrap64 (x52 + 1))) else (some false)) else (some false)) else (some false))) else (none))) else (none))) else (none)) else (none)) else (if (x11.length : Int) ≥ 1 then (some (decide ((x11.length : Int) ≤ 4))) else (some false))
end
def marlinelaw10_HeadBack.f (k : Nat) (a0_0 : Bool) (a0_1 : Bool) (a0_2 : Bool) (a0_3 : Bool) (a0_4 : Int) (a0_5 : Int) (a0_6 : Int) (a1 : Int) (l2 : List Int) (a3 : Bool) (a4 : Bool) : Option (Bool) := (marlinelaw10_speaks.f k).bind fun t116 => (if t116 = true then (if (l2.length : Int) > 100 then (marlinelaw10_HeadBack.j0 k a1 l2 a3 a4 true a0_0 a0_1 a0_2 a0_3 a0_4 a0_5 a0_6) else ((marlineref09_Right.f (wrap64 (a1))).bind fun t117 => (marlinelaw10_HeadBack.j0 k a1 l2 a3 a4 (!t117) a0_0 a0_1 a0_2 a0_3 a0_4 a0_5 a0_6))) else (marlinelaw10_HeadBack.j0 k a1 l2 a3 a4 true a0_0 a0_1 a0_2 a0_3 a0_4 a0_5 a0_6))
theorem marlinelaw10_HeadBack.mono_l : ∀ k, (∀ y0 y1 y2 y3 y4 y5 y6 y7 y8 y9 y10 y11, LeO (marlinelaw10_HeadBack.j0 k y0 y1 y2 y3 y4 y5 y6 y7 y8 y9 y10 y11) (marlinelaw10_HeadBack.j0 (k + 1) y0 y1 y2 y3 y4 y5 y6 y7 y8 y9 y10 y11)) ∧ (∀ y0 y1 y2 y3 y4 y5 y6 y7 y8 y9 y10 y11 y12 y13 y14 y15 y16 y17, LeO (marlinelaw10_HeadBack.j1 k y0 y1 y2 y3 y4 y5 y6 y7 y8 y9 y10 y11 y12 y13 y14 y15 y16 y17) (marlinelaw10_HeadBack.j1 (k + 1) y0 y1 y2 y3 y4 y5 y6 y7 y8 y9 y10 y11 y12 y13 y14 y15 y16 y17)) ∧ (∀ y0 y1 y2 y3 y4 y5 y6 y7 y8 y9 y10 y11 y12 y13 y14 y15 y16, LeO (marlinelaw10_HeadBack.j2 k y0 y1 y2 y3 y4 y5 y6 y7 y8 y9 y10 y11 y12 y13 y14 y15 y16) (marlinelaw10_HeadBack.j2 (k + 1) y0 y1 y2 y3 y4 y5 y6 y7 y8 y9 y10 y11 y12 y13 y14 y15 y16)) ∧ (∀ y0 y1 y2 y3 y4 y5, LeO (marlinelaw10_HeadBack.l0 k y0 y1 y2 y3 y4 y5) (marlinelaw10_HeadBack.l0 (k + 1) y0 y1 y2 y3 y4 y5))
  | 0 => ⟨fun _ _ _ _ _ _ _ _ _ _ _ _ r h => by simp [marlinelaw10_HeadBack.j0] at h, fun _ _ _ _ _ _ _ _ _ _ _ _ _ _ _ _ _ _ r h => by simp [marlinelaw10_HeadBack.j1] at h, fun _ _ _ _ _ _ _ _ _ _ _ _ _ _ _ _ _ r h => by simp [marlinelaw10_HeadBack.j2] at h, fun _ _ _ _ _ _ r h => by simp [marlinelaw10_HeadBack.l0] at h⟩
  | k + 1 => by
    obtain ⟨ih0, ih1, ih2, ih3⟩ := marlinelaw10_HeadBack.mono_l k
    refine ⟨?_, ?_, ?_, ?_⟩
    · intro y0 y1 y2 y3 y4 y5 y6 y7 y8 y9 y10 y11
      unfold marlinelaw10_HeadBack.j0
      repeat' first
      | (with_reducible exact ih0 _ _ _ _ _ _ _ _ _ _ _ _)
      | (with_reducible exact ih1 _ _ _ _ _ _ _ _ _ _ _ _ _ _ _ _ _ _)
      | (with_reducible exact ih2 _ _ _ _ _ _ _ _ _ _ _ _ _ _ _ _ _)
      | (with_reducible exact ih3 _ _ _ _ _ _)
      | (with_reducible exact head_Get.mono _ _ _ _ _ _ _ _ _)
      | (with_reducible exact head_Put.mono _ _ _ _ _ _ _ _ _)
      | (with_reducible exact marlinelaw10_speaks.mono _)
      | (with_reducible exact LeO.refl _)
      | (with_reducible exact LeO.none _)
      | (with_reducible refine LeO.ite ?_ ?_)
      | (with_reducible refine LeO.bind ?_ (fun _ => ?_))
      | exact ih0 _ _ _ _ _ _ _ _ _ _ _ _
      | exact ih1 _ _ _ _ _ _ _ _ _ _ _ _ _ _ _ _ _ _
      | exact ih2 _ _ _ _ _ _ _ _ _ _ _ _ _ _ _ _ _
      | exact ih3 _ _ _ _ _ _
      | exact head_Get.mono _ _ _ _ _ _ _ _ _
      | exact head_Put.mono _ _ _ _ _ _ _ _ _
      | exact marlinelaw10_speaks.mono _
      | exact LeO.none _
      | refine LeO.ite ?_ ?_
      | refine LeO.bind ?_ (fun _ => ?_)
    · intro y0 y1 y2 y3 y4 y5 y6 y7 y8 y9 y10 y11 y12 y13 y14 y15 y16 y17
      unfold marlinelaw10_HeadBack.j1
      repeat' first
      | (with_reducible exact ih0 _ _ _ _ _ _ _ _ _ _ _ _)
      | (with_reducible exact ih1 _ _ _ _ _ _ _ _ _ _ _ _ _ _ _ _ _ _)
      | (with_reducible exact ih2 _ _ _ _ _ _ _ _ _ _ _ _ _ _ _ _ _)
      | (with_reducible exact ih3 _ _ _ _ _ _)
      | (with_reducible exact head_Get.mono _ _ _ _ _ _ _ _ _)
      | (with_reducible exact head_Put.mono _ _ _ _ _ _ _ _ _)
      | (with_reducible exact marlinelaw10_speaks.mono _)
      | (with_reducible exact LeO.refl _)
      | (with_reducible exact LeO.none _)
      | (with_reducible refine LeO.ite ?_ ?_)
      | (with_reducible refine LeO.bind ?_ (fun _ => ?_))
      | exact ih0 _ _ _ _ _ _ _ _ _ _ _ _
      | exact ih1 _ _ _ _ _ _ _ _ _ _ _ _ _ _ _ _ _ _
      | exact ih2 _ _ _ _ _ _ _ _ _ _ _ _ _ _ _ _ _
      | exact ih3 _ _ _ _ _ _
      | exact head_Get.mono _ _ _ _ _ _ _ _ _
      | exact head_Put.mono _ _ _ _ _ _ _ _ _
      | exact marlinelaw10_speaks.mono _
      | exact LeO.none _
      | refine LeO.ite ?_ ?_
      | refine LeO.bind ?_ (fun _ => ?_)
    · intro y0 y1 y2 y3 y4 y5 y6 y7 y8 y9 y10 y11 y12 y13 y14 y15 y16
      unfold marlinelaw10_HeadBack.j2
      repeat' first
      | (with_reducible exact ih0 _ _ _ _ _ _ _ _ _ _ _ _)
      | (with_reducible exact ih1 _ _ _ _ _ _ _ _ _ _ _ _ _ _ _ _ _ _)
      | (with_reducible exact ih2 _ _ _ _ _ _ _ _ _ _ _ _ _ _ _ _ _)
      | (with_reducible exact ih3 _ _ _ _ _ _)
      | (with_reducible exact head_Get.mono _ _ _ _ _ _ _ _ _)
      | (with_reducible exact head_Put.mono _ _ _ _ _ _ _ _ _)
      | (with_reducible exact marlinelaw10_speaks.mono _)
      | (with_reducible exact LeO.refl _)
      | (with_reducible exact LeO.none _)
      | (with_reducible refine LeO.ite ?_ ?_)
      | (with_reducible refine LeO.bind ?_ (fun _ => ?_))
      | exact ih0 _ _ _ _ _ _ _ _ _ _ _ _
      | exact ih1 _ _ _ _ _ _ _ _ _ _ _ _ _ _ _ _ _ _
      | exact ih2 _ _ _ _ _ _ _ _ _ _ _ _ _ _ _ _ _
      | exact ih3 _ _ _ _ _ _
      | exact head_Get.mono _ _ _ _ _ _ _ _ _
      | exact head_Put.mono _ _ _ _ _ _ _ _ _
      | exact marlinelaw10_speaks.mono _
      | exact LeO.none _
      | refine LeO.ite ?_ ?_
      | refine LeO.bind ?_ (fun _ => ?_)
    · intro y0 y1 y2 y3 y4 y5
      unfold marlinelaw10_HeadBack.l0
      repeat' first
      | (with_reducible exact ih0 _ _ _ _ _ _ _ _ _ _ _ _)
      | (with_reducible exact ih1 _ _ _ _ _ _ _ _ _ _ _ _ _ _ _ _ _ _)
      | (with_reducible exact ih2 _ _ _ _ _ _ _ _ _ _ _ _ _ _ _ _ _)
      | (with_reducible exact ih3 _ _ _ _ _ _)
      | (with_reducible exact head_Get.mono _ _ _ _ _ _ _ _ _)
      | (with_reducible exact head_Put.mono _ _ _ _ _ _ _ _ _)
      | (with_reducible exact marlinelaw10_speaks.mono _)
      | (with_reducible exact LeO.refl _)
      | (with_reducible exact LeO.none _)
      | (with_reducible refine LeO.ite ?_ ?_)
      | (with_reducible refine LeO.bind ?_ (fun _ => ?_))
      | exact ih0 _ _ _ _ _ _ _ _ _ _ _ _
      | exact ih1 _ _ _ _ _ _ _ _ _ _ _ _ _ _ _ _ _ _
      | exact ih2 _ _ _ _ _ _ _ _ _ _ _ _ _ _ _ _ _
      | exact ih3 _ _ _ _ _ _
      | exact head_Get.mono _ _ _ _ _ _ _ _ _
      | exact head_Put.mono _ _ _ _ _ _ _ _ _
      | exact marlinelaw10_speaks.mono _
      | exact LeO.none _
      | refine LeO.ite ?_ ?_
      | refine LeO.bind ?_ (fun _ => ?_)
theorem marlinelaw10_HeadBack.mono : ∀ a0 a1 a2 a3 a4 a5 a6 a7 a8 a9 a10 k, LeO (marlinelaw10_HeadBack.f k a0 a1 a2 a3 a4 a5 a6 a7 a8 a9 a10) (marlinelaw10_HeadBack.f (k + 1) a0 a1 a2 a3 a4 a5 a6 a7 a8 a9 a10) := by
  intro a0 a1 a2 a3 a4 a5 a6 a7 a8 a9 a10 k
  obtain ⟨ih0, ih1, ih2, ih3⟩ := marlinelaw10_HeadBack.mono_l k
  unfold marlinelaw10_HeadBack.f
  repeat' first
      | (with_reducible exact ih0 _ _ _ _ _ _ _ _ _ _ _ _)
      | (with_reducible exact ih1 _ _ _ _ _ _ _ _ _ _ _ _ _ _ _ _ _ _)
      | (with_reducible exact ih2 _ _ _ _ _ _ _ _ _ _ _ _ _ _ _ _ _)
      | (with_reducible exact ih3 _ _ _ _ _ _)
      | (with_reducible exact head_Get.mono _ _ _ _ _ _ _ _ _)
      | (with_reducible exact head_Put.mono _ _ _ _ _ _ _ _ _)
      | (with_reducible exact marlinelaw10_speaks.mono _)
      | (with_reducible exact LeO.refl _)
      | (with_reducible exact LeO.none _)
      | (with_reducible refine LeO.ite ?_ ?_)
      | (with_reducible refine LeO.bind ?_ (fun _ => ?_))
      | exact ih0 _ _ _ _ _ _ _ _ _ _ _ _
      | exact ih1 _ _ _ _ _ _ _ _ _ _ _ _ _ _ _ _ _ _
      | exact ih2 _ _ _ _ _ _ _ _ _ _ _ _ _ _ _ _ _
      | exact ih3 _ _ _ _ _ _
      | exact head_Get.mono _ _ _ _ _ _ _ _ _
      | exact head_Put.mono _ _ _ _ _ _ _ _ _
      | exact marlinelaw10_speaks.mono _
      | exact LeO.none _
      | refine LeO.ite ?_ ?_
      | refine LeO.bind ?_ (fun _ => ?_)
def marlinelaw10_HeadBack.T10 : Bool × List (List Nat × List Nat) := (true, [([], []), ([], []), ([], []), ([1, 2], [1, 2]), ([], []), ([3, 4, 3], [3, 4]), ([0, 5, 5], [0, 5]), ([6], [6]), ([7], [7]), ([7], [7]), ([7], [7]), ([8, 6, 0, 1, 2, 3, 4, 5, 6, 7, 8], [8]), ([9, 11, 0, 1, 2, 3, 4, 5, 6, 7, 8, 9, 11], [9]), ([10, 12, 0, 1, 2, 3, 4, 5, 6, 7, 8, 9, 10, 11, 12], [10])])
def marlinelaw10_HeadBack.B10 : List Nat := [0, 0, 0, 6, 0, 30, 63, 127, 255, 255, 255, 511, 3071, 8191]
theorem marlinelaw10_HeadBack.tab10 : rtab .any (opsOf Tryd.f12 10) = marlinelaw10_HeadBack.T10 := by kernel_rfl
theorem marlinelaw10_HeadBack.bits10 : waitsOk marlinelaw10_HeadBack.T10.2 marlinelaw10_HeadBack.B10 = true := by kernel_rfl
set_option maxHeartbeats 8000000 in
set_option maxRecDepth 100000 in
theorem marlinelaw10_HeadBack.calls (k : Nat) (a0_0 : Bool) (a0_1 : Bool) (a0_2 : Bool) (a0_3 : Bool) (a0_4 : Int) (a0_5 : Int) (a0_6 : Int) (a1 : Int) (A2 : Option Addr) (c2 : Nat) (l2 : List Int) (a3 : Bool) (a4 : Bool) (r : Bool) (w : World) (hr2 : Kd.C (Kd.int .u8) w A2 l2.length l2) (hc2 : l2.length ≤ c2) (hgH : GH w) (h : marlinelaw10_HeadBack.f k a0_0 a0_1 a0_2 a0_3 a0_4 a0_5 a0_6 a1 l2 a3 a4 = some r) :
    Calls Tryd.prog 12 #[.agg #[.bool a0_0, .bool a0_1, .bool a0_2, .bool a0_3, .int .u32 a0_4, .int .u32 a0_5, .int .i64 a0_6], .int .u16 a1, .slice A2 l2.length c2, .bool a3, .bool a4] w fun e w' => e = .returned (.bool r) ∧ Below w.heap.size w w' := by
  have hu24 := Tryd.underlying24
  have HGH := Aside0.mk hgH
  clear hgH
  have HR2 := Aside0.mk hr2
  have HC2 := Aside0.mk hc2
  clear hr2 hc2
  have HB := Aside0.mk (Below.refl w.heap.size w)
  have H : ((marlinelaw10_speaks.f k).bind fun t116 => (if t116 = true then (if (l2.length : Int) > 100 then (marlinelaw10_HeadBack.j0 k a1 l2 a3 a4 true a0_0 a0_1 a0_2 a0_3 a0_4 a0_5 a0_6) else ((marlineref09_Right.f (wrap64 (a1))).bind fun t117 => (marlinelaw10_HeadBack.j0 k a1 l2 a3 a4 (!t117) a0_0 a0_1 a0_2 a0_3 a0_4 a0_5 a0_6))) else (marlinelaw10_HeadBack.j0 k a1 l2 a3 a4 true a0_0 a0_1 a0_2 a0_3 a0_4 a0_5 a0_6))) = some r := h
  clear h
  have HC6 := Aside0.mk H
  clear H
  go_enter Tryd.func12, Tryd.ntmps12
  go_upto_region 1 with (first | ((with_reducible refine gate_dst (N := 5) rfl ?_); (try (refine gate_guard (by rfl) ?_; dsimp only)); refine box_event ?hg (N := 5) ?hd (cs := #[.bool a0_0, .bool a0_1, .bool a0_2, .bool a0_3, .int .u32 a0_4, .int .u32 a0_5, .int .i64 a0_6]) (t := 24) ?hr ?_; (case hd => rfl); (case hg => rfl); (case hr => first | (go_simp; done) | (go_simp; rfl)); intro gb115 hg w7 hbox hb; have n0_ := Aside0.mk (below_step (by repeat (first | (with_reducible first | exact HB.out | apply below_alloc | apply pw_below_drewN | apply below_drew1) | exact HB.out)) hb); have n1_ := Aside0.mk (hbox); have n2_ := Aside0.mk ((by rw [hg]; exact (below_size (by repeat (first | (with_reducible first | exact HB.out | apply below_alloc | apply pw_below_drewN | apply below_drew1) | exact HB.out))) : w.heap.size ≤ gb115)); have n3_ := Aside0.mk ((by rw [hg]; exact (below_size (by repeat (first | (with_reducible first | exact HB.out | apply below_alloc | apply pw_below_drewN | apply below_drew1) | exact HB.out))) : w.heap.size ≤ gb115)); clear HB; have HB := n0_; have BK115 := n1_; have GW115 := n2_; have GE115 := n3_; clear n0_ n1_ n2_ n3_; clear hb hbox hg))
  (try simp only [Act.put, List.setIfInBounds_toArray, List.set_cons_zero, List.set_cons_succ])
  go_cut [30] (fun v30 wc => ∃ (kq : Nat) (x30_5 : Bool), v30 = .bool x30_5 ∧ Aside0 (marlinelaw10_HeadBack.j0 kq a1 l2 a3 a4 x30_5 a0_0 a0_1 a0_2 a0_3 a0_4 a0_5 a0_6 = some r) ∧ Aside0 (kq ≤ k) ∧ Aside0 (wc.heap[gb115]? = some (.cells #[.bool a0_0, .bool a0_1, .bool a0_2, .bool a0_3, .int .u32 a0_4, .int .u32 a0_5, .int .i64 a0_6] 24 (0, 0))) ∧ Aside0 (Below w.heap.size w wc))
  case first =>
    have H := HC6.out
    clear HC6
    replace H := Option.bind_eq_some_iff.mp H
    obtain ⟨t116, A80, H⟩ := H
    replace H : (if t116 = true then (if (l2.length : Int) > 100 then (marlinelaw10_HeadBack.j0 k a1 l2 a3 a4 true a0_0 a0_1 a0_2 a0_3 a0_4 a0_5 a0_6) else ((marlineref09_Right.f (wrap64 (a1))).bind fun t117 => (marlinelaw10_HeadBack.j0 k a1 l2 a3 a4 (!t117) a0_0 a0_1 a0_2 a0_3 a0_4 a0_5 a0_6))) else (marlinelaw10_HeadBack.j0 k a1 l2 a3 a4 true a0_0 a0_1 a0_2 a0_3 a0_4 a0_5 a0_6)) = some r := H
    have A8 := Aside0.mk A80
    clear A80
    by_cases c9 : t116 = true
    · subst c9
      have H1 : (if (l2.length : Int) > 100 then (marlinelaw10_HeadBack.j0 k a1 l2 a3 a4 true a0_0 a0_1 a0_2 a0_3 a0_4 a0_5 a0_6) else ((marlineref09_Right.f (wrap64 (a1))).bind fun t117 => (marlinelaw10_HeadBack.j0 k a1 l2 a3 a4 (!t117) a0_0 a0_1 a0_2 a0_3 a0_4 a0_5 a0_6))) = some r := by rw [if_pos rfl] at H; exact H
      clear H
      have H := H1
      clear H1
      by_cases c10 : (l2.length : Int) > 100
      · rw [if_pos c10] at H
        have c10b0 : decide (100 < (l2.length : Int)) = true := decide_eq_true c10
        have c10b1 : decide (100 < l2.length) = true := decide_eq_true (by omega)
        clear c10
        (first | rw [c10b0] | (simp only [i64_w, i32_w]; rw [c10b0]) | skip)
        have H' := Aside0.mk H
        clear H
        go_wp2_with (first | ((with_reducible refine gate_callee (f := 28) rfl ?_); refine goesL_ (some 18) rfl rfl Tryd.func28 (by kernel_rfl) rfl #[] rfl (by (try simp only [List.map_toArray, List.map_cons, List.map_nil]); first | done | rfl | (simp only [List.length_drop, List.length_take]; rfl)) ?_; (with_reducible refine (marlinelaw10_speaks.calls k  true _ ?side1 A8.out).mono ?_); (case side1 => repeat (first | exact (GH_below HGH.out HB.out) | (with_reducible refine GH_alloc ?_ _) | (with_reducible refine GH_drewN ?_ _) | (with_reducible refine GH_drew ?_))); rintro e w11 ⟨rfl, hb⟩; refine ⟨_, rfl, ?_⟩; have n0_ := Aside0.mk (blk_below (g := gb115) (o := .cells #[.bool a0_0, .bool a0_1, .bool a0_2, .bool a0_3, .int .u32 a0_4, .int .u32 a0_5, .int .i64 a0_6] 24 (0, 0)) (by (with_reducible repeat (first | refine blk_drewN ?_ _ | refine blk_drew ?_ | refine blk_alloc ?_ _)); exact BK115.out) hb); have n1_ := Aside0.mk (below_step (by repeat (first | (with_reducible first | exact HB.out | apply below_alloc | apply pw_below_drewN | apply below_drew1 | refine below_set ?_ GE115.out) | exact HB.out)) hb); clear BK115; clear HB; have BK115 := n0_; have HB := n1_; clear n0_ n1_; (try clear hb); (try clear hb2); (try clear hk); (try clear hi)))
        go_meet
        case rel => exact ⟨_, (true), (by first | rfl | (simp; done) | (simp [*]; done)), H', ⟨by first | omega | exact Nat.le_refl _⟩, ⟨by (with_reducible repeat (first | refine blk_drewN ?_ _ | refine blk_drew ?_ | refine blk_alloc ?_ _)); exact BK115.out⟩, ⟨by repeat (first | (with_reducible first | exact HB.out | apply below_alloc | apply pw_below_drewN | apply below_drew1 | refine below_set ?_ GE115.out) | exact HB.out)⟩⟩
      · rw [if_neg c10] at H
        have c10b0 : decide (100 < (l2.length : Int)) = false := decide_eq_false c10
        have c10b1 : decide (100 < l2.length) = false := decide_eq_false (by omega)
        clear c10
        (first | rw [c10b0] | (simp only [i64_w, i32_w]; rw [c10b0]) | skip)
        replace H := Option.bind_eq_some_iff.mp H
        obtain ⟨t117, A120, H⟩ := H
        replace H : (marlinelaw10_HeadBack.j0 k a1 l2 a3 a4 (!t117) a0_0 a0_1 a0_2 a0_3 a0_4 a0_5 a0_6) = some r := H
        have A12 := Aside0.mk A120
        clear A120
        have H' := Aside0.mk H
        clear H
        go_wp2_with (first | ((with_reducible refine gate_callee (f := 28) rfl ?_); refine goesL_ (some 18) rfl rfl Tryd.func28 (by kernel_rfl) rfl #[] rfl (by (try simp only [List.map_toArray, List.map_cons, List.map_nil]); first | done | rfl | (simp only [List.length_drop, List.length_take]; rfl)) ?_; (with_reducible refine (marlinelaw10_speaks.calls k  true _ ?side1 A8.out).mono ?_); (case side1 => repeat (first | exact (GH_below HGH.out HB.out) | (with_reducible refine GH_alloc ?_ _) | (with_reducible refine GH_drewN ?_ _) | (with_reducible refine GH_drew ?_))); rintro e w13 ⟨rfl, hb⟩; refine ⟨_, rfl, ?_⟩; have n0_ := Aside0.mk (blk_below (g := gb115) (o := .cells #[.bool a0_0, .bool a0_1, .bool a0_2, .bool a0_3, .int .u32 a0_4, .int .u32 a0_5, .int .i64 a0_6] 24 (0, 0)) (by (with_reducible repeat (first | refine blk_drewN ?_ _ | refine blk_drew ?_ | refine blk_alloc ?_ _)); exact BK115.out) hb); have n1_ := Aside0.mk (below_step (by repeat (first | (with_reducible first | exact HB.out | apply below_alloc | apply pw_below_drewN | apply below_drew1 | refine below_set ?_ GE115.out) | exact HB.out)) hb); clear BK115; clear HB; have BK115 := n0_; have HB := n1_; clear n0_ n1_; (try clear hb); (try clear hb2); (try clear hk); (try clear hi)) | (go_at_call 34; (with_reducible refine (marlineref09_Right.calls (wrap64 (a1)) t117 _ A12.out).mono ?_); rintro e w' ⟨rfl, ⟨nd, rfl⟩⟩))
        go_meet
        case rel => exact ⟨_, (!t117), (by first | rfl | (simp; done) | (simp [*]; done)), H', ⟨by first | omega | exact Nat.le_refl _⟩, ⟨by (with_reducible repeat (first | refine blk_drewN ?_ _ | refine blk_drew ?_ | refine blk_alloc ?_ _)); exact BK115.out⟩, ⟨by repeat (first | (with_reducible first | exact HB.out | apply below_alloc | apply pw_below_drewN | apply below_drew1 | refine below_set ?_ GE115.out) | exact HB.out)⟩⟩
    · replace c9 := Bool.eq_false_iff.mpr c9
      subst c9
      have H1 : (marlinelaw10_HeadBack.j0 k a1 l2 a3 a4 true a0_0 a0_1 a0_2 a0_3 a0_4 a0_5 a0_6) = some r := by rw [if_neg (show ¬ (false = true) by decide)] at H; exact H
      clear H
      have H := H1
      clear H1
      have H' := Aside0.mk H
      clear H
      go_wp2_with (first | ((with_reducible refine gate_callee (f := 28) rfl ?_); refine goesL_ (some 18) rfl rfl Tryd.func28 (by kernel_rfl) rfl #[] rfl (by (try simp only [List.map_toArray, List.map_cons, List.map_nil]); first | done | rfl | (simp only [List.length_drop, List.length_take]; rfl)) ?_; (with_reducible refine (marlinelaw10_speaks.calls k  false _ ?side1 A8.out).mono ?_); (case side1 => repeat (first | exact (GH_below HGH.out HB.out) | (with_reducible refine GH_alloc ?_ _) | (with_reducible refine GH_drewN ?_ _) | (with_reducible refine GH_drew ?_))); rintro e w14 ⟨rfl, hb⟩; refine ⟨_, rfl, ?_⟩; have n0_ := Aside0.mk (blk_below (g := gb115) (o := .cells #[.bool a0_0, .bool a0_1, .bool a0_2, .bool a0_3, .int .u32 a0_4, .int .u32 a0_5, .int .i64 a0_6] 24 (0, 0)) (by (with_reducible repeat (first | refine blk_drewN ?_ _ | refine blk_drew ?_ | refine blk_alloc ?_ _)); exact BK115.out) hb); have n1_ := Aside0.mk (below_step (by repeat (first | (with_reducible first | exact HB.out | apply below_alloc | apply pw_below_drewN | apply below_drew1 | refine below_set ?_ GE115.out) | exact HB.out)) hb); clear BK115; clear HB; have BK115 := n0_; have HB := n1_; clear n0_ n1_; (try clear hb); (try clear hb2); (try clear hk); (try clear hi)))
      go_meet
      case rel => exact ⟨_, (true), (by first | rfl | (simp; done) | (simp [*]; done)), H', ⟨by first | omega | exact Nat.le_refl _⟩, ⟨by (with_reducible repeat (first | refine blk_drewN ?_ _ | refine blk_drew ?_ | refine blk_alloc ?_ _)); exact BK115.out⟩, ⟨by repeat (first | (with_reducible first | exact HB.out | apply below_alloc | apply pw_below_drewN | apply below_drew1 | refine below_set ?_ GE115.out) | exact HB.out)⟩⟩
  case rest =>
    clear HC6
    try clear c1
    try clear c2
    try clear p2
    try clear p6
    try clear c9
    try clear c10
    try clear c10b0
    try clear c10b1
    try clear c12
    obtain ⟨kq, x30_5, rfl, HA, HJ5, BK115, HB⟩ := hcut
    cases kq with
    | zero => exact absurd HA.out (by simp [marlinelaw10_HeadBack.j0])
    | succ kj5 =>
      have H := HA.out
      clear HA
      simp only [marlinelaw10_HeadBack.j0] at H
      by_cases c15 : x30_5 = true
      · subst c15
        have H1 : ((marlinelaw10_speaks.f kj5).bind fun t118 => (some t118)) = some r := by rw [if_pos rfl] at H; exact H
        clear H
        have H := H1
        clear H1
        replace H := Option.bind_eq_some_iff.mp H
        obtain ⟨t118, A160, H⟩ := H
        replace H : (some t118) = some r := H
        have A16 := Aside0.mk A160
        clear A160
        obtain rfl := Option.some.inj H
        go_wp2_with (first | ((with_reducible refine gate_callee (f := 28) rfl ?_); refine goesL_ (some 31) rfl rfl Tryd.func28 (by kernel_rfl) rfl #[] rfl (by (try simp only [List.map_toArray, List.map_cons, List.map_nil]); first | done | rfl | (simp only [List.length_drop, List.length_take]; rfl)) ?_; (with_reducible refine (marlinelaw10_speaks.calls kj5  t118 _ ?side1 A16.out).mono ?_); (case side1 => repeat (first | exact (GH_below HGH.out HB.out) | (with_reducible refine GH_alloc ?_ _) | (with_reducible refine GH_drewN ?_ _) | (with_reducible refine GH_drew ?_))); rintro e w17 ⟨rfl, hb⟩; refine ⟨_, rfl, ?_⟩; have n0_ := Aside0.mk (blk_below (g := gb115) (o := .cells #[.bool a0_0, .bool a0_1, .bool a0_2, .bool a0_3, .int .u32 a0_4, .int .u32 a0_5, .int .i64 a0_6] 24 (0, 0)) (by (with_reducible repeat (first | refine blk_drewN ?_ _ | refine blk_drew ?_ | refine blk_alloc ?_ _)); exact BK115.out) hb); have n1_ := Aside0.mk (below_step (by repeat (first | (with_reducible first | exact HB.out | apply below_alloc | apply pw_below_drewN | apply below_drew1 | refine below_set ?_ GE115.out) | exact HB.out)) hb); clear BK115; clear HB; have BK115 := n0_; have HB := n1_; clear n0_ n1_; (try clear hb); (try clear hb2); (try clear hk); (try clear hi)))
        go_ret
        exact ⟨by first | rfl | (simp [errW_none, errW_some] <;> rfl) | (simp [*, errW_none, errW_some] <;> rfl), by repeat (first | (with_reducible first | exact HB.out | apply below_alloc | apply pw_below_drewN | apply below_drew1 | refine below_set ?_ GE115.out) | exact HB.out)⟩
      · replace c15 := Bool.eq_false_iff.mpr c15
        subst c15
        have H1 : ((head_Put.f kj5 a0_0 a0_1 a0_2 a0_3 a0_4 a0_5 a0_6 a1).bind fun t119 => (if a0_2 = true then (marlinelaw10_HeadBack.j1 kj5 a1 l2 a4 t119 a0_0 a0_1 a0_2 a0_3 a0_4 a0_5 a0_6 a0_0 a0_1 true a0_3 a0_4 a0_5 a0_6) else (marlinelaw10_HeadBack.j1 kj5 a1 l2 a4 t119 a0_0 a0_1 a0_2 a0_3 a0_4 a0_5 a0_6 a0_0 a0_1 a3 a0_3 a0_4 a0_5 a0_6))) = some r := by rw [if_neg (show ¬ (false = true) by decide)] at H; exact H
        clear H
        have H := H1
        clear H1
        replace H := Option.bind_eq_some_iff.mp H
        obtain ⟨t119, A180, H⟩ := H
        replace H : (if a0_2 = true then (marlinelaw10_HeadBack.j1 kj5 a1 l2 a4 t119 a0_0 a0_1 a0_2 a0_3 a0_4 a0_5 a0_6 a0_0 a0_1 true a0_3 a0_4 a0_5 a0_6) else (marlinelaw10_HeadBack.j1 kj5 a1 l2 a4 t119 a0_0 a0_1 a0_2 a0_3 a0_4 a0_5 a0_6 a0_0 a0_1 a3 a0_3 a0_4 a0_5 a0_6)) = some r := H
        have A18 := Aside0.mk A180
        clear A180
        have HC19 := Aside0.mk H
        clear H
        have hcz20_0 : wc.cell? ⟨gb115, 0, none⟩ = some (.bool a0_0) := (blk_cell BK115.out 0).trans rfl
        have hcz20_1 : wc.cell? ⟨gb115, 1, none⟩ = some (.bool a0_1) := (blk_cell BK115.out 1).trans rfl
        have hcz20_2 : wc.cell? ⟨gb115, 2, none⟩ = some (.bool a0_2) := (blk_cell BK115.out 2).trans rfl
        have hcz20_3 : wc.cell? ⟨gb115, 3, none⟩ = some (.bool a0_3) := (blk_cell BK115.out 3).trans rfl
        have hcz20_4 : wc.cell? ⟨gb115, 4, none⟩ = some (.int .u32 a0_4) := (blk_cell BK115.out 4).trans rfl
        have hcz20_5 : wc.cell? ⟨gb115, 5, none⟩ = some (.int .u32 a0_5) := (blk_cell BK115.out 5).trans rfl
        have hcz20_6 : wc.cell? ⟨gb115, 6, none⟩ = some (.int .i64 a0_6) := (blk_cell BK115.out 6).trans rfl
        have hfz20_0 := blk_frozen BK115.out 0
        have hfz20_1 := blk_frozen BK115.out 1
        have hfz20_2 := blk_frozen BK115.out 2
        have hfz20_3 := blk_frozen BK115.out 3
        have hfz20_4 := blk_frozen BK115.out 4
        have hfz20_5 := blk_frozen BK115.out 5
        have hfz20_6 := blk_frozen BK115.out 6
        go_upto_region 5 with (first | ((with_reducible refine gate_callee (f := 32) rfl ?_); refine goesL_ (some 34) rfl rfl Tryd.func32 (by kernel_rfl) rfl #[.agg #[.bool a0_0, .bool a0_1, .bool a0_2, .bool a0_3, .int .u32 a0_4, .int .u32 a0_5, .int .i64 a0_6], .int .u16 a1] rfl (by (try simp only [List.map_toArray, List.map_cons, List.map_nil]); first | done | rfl | (simp only [List.length_drop, List.length_take]; rfl)) ?_; (with_reducible refine (head_Put.calls kj5 a0_0 a0_1 a0_2 a0_3 a0_4 a0_5 a0_6 a1 t119 _ ?side1 A18.out).mono ?_); (case side1 => repeat (first | exact (GH_below HGH.out HB.out) | (with_reducible refine GH_alloc ?_ _) | (with_reducible refine GH_drewN ?_ _) | (with_reducible refine GH_drew ?_))); rintro e w21 ⟨v120, rfl, ho0, hb⟩; refine ⟨_, rfl, ?_⟩; have n0_ := Aside0.mk (Kd.Q_lower ho0 (below_size (by repeat (first | (with_reducible first | exact HB.out | apply below_alloc | apply pw_below_drewN | apply below_drew1 | refine below_set ?_ GE115.out) | exact HB.out)))); have n1_ := Aside0.mk (blk_below (g := gb115) (o := .cells #[.bool a0_0, .bool a0_1, .bool a0_2, .bool a0_3, .int .u32 a0_4, .int .u32 a0_5, .int .i64 a0_6] 24 (0, 0)) (by (with_reducible repeat (first | refine blk_drewN ?_ _ | refine blk_drew ?_ | refine blk_alloc ?_ _)); exact BK115.out) hb); have n2_ := Aside0.mk (below_step (by repeat (first | (with_reducible first | exact HB.out | apply below_alloc | apply pw_below_drewN | apply below_drew1 | refine below_set ?_ GE115.out) | exact HB.out)) hb); clear BK115; clear HB; have HO121 := n0_; have BK115 := n1_; have HB := n2_; clear n0_ n1_ n2_; (try clear hb); (try clear hb2); (try clear hk); (try clear hi); (try clear ho0); have hcz22_0 : w21.cell? ⟨gb115, 0, none⟩ = some (.bool a0_0) := (blk_cell BK115.out 0).trans rfl; have hcz22_1 : w21.cell? ⟨gb115, 1, none⟩ = some (.bool a0_1) := (blk_cell BK115.out 1).trans rfl; have hcz22_2 : w21.cell? ⟨gb115, 2, none⟩ = some (.bool a0_2) := (blk_cell BK115.out 2).trans rfl; have hcz22_3 : w21.cell? ⟨gb115, 3, none⟩ = some (.bool a0_3) := (blk_cell BK115.out 3).trans rfl; have hcz22_4 : w21.cell? ⟨gb115, 4, none⟩ = some (.int .u32 a0_4) := (blk_cell BK115.out 4).trans rfl; have hcz22_5 : w21.cell? ⟨gb115, 5, none⟩ = some (.int .u32 a0_5) := (blk_cell BK115.out 5).trans rfl; have hcz22_6 : w21.cell? ⟨gb115, 6, none⟩ = some (.int .i64 a0_6) := (blk_cell BK115.out 6).trans rfl; have hfz22_0 := blk_frozen BK115.out 0; have hfz22_1 := blk_frozen BK115.out 1; have hfz22_2 := blk_frozen BK115.out 2; have hfz22_3 := blk_frozen BK115.out 3; have hfz22_4 := blk_frozen BK115.out 4; have hfz22_5 := blk_frozen BK115.out 5; have hfz22_6 := blk_frozen BK115.out 6) | ((with_reducible refine gate_dst (N := 12) rfl ?_); (try (refine gate_guard (by rfl) ?_; dsimp only)); refine box_event ?hg (N := 12) ?hd (cs := #[.bool false, .bool false, .bool false, .bool false, .int .u32 0, .int .u32 0, .int .i64 0]) (t := 24) ?hr ?_; (case hd => rfl); (case hg => rfl); (case hr => first | (go_simp; done) | (go_simp; rfl)); intro gb122 hg w23 hbox hb; have n0_ := Aside0.mk (Kd.Q_below (by (with_reducible repeat (first | apply Kd.Q_alloc | apply Kd.Q_drewN | apply Kd.Q_drew)); exact HO121.out) hb); have n1_ := Aside0.mk (blk_below (g := gb115) (o := .cells #[.bool a0_0, .bool a0_1, .bool a0_2, .bool a0_3, .int .u32 a0_4, .int .u32 a0_5, .int .i64 a0_6] 24 (0, 0)) (by (with_reducible repeat (first | refine blk_drewN ?_ _ | refine blk_drew ?_ | refine blk_alloc ?_ _)); exact BK115.out) hb); have n2_ := Aside0.mk (below_step (by repeat (first | (with_reducible first | exact HB.out | apply below_alloc | apply pw_below_drewN | apply below_drew1 | refine below_set ?_ GE115.out) | exact HB.out)) hb); have n3_ := Aside0.mk (hbox); have n4_ := Aside0.mk ((by rw [hg]; exact (below_size (by repeat (first | (with_reducible first | exact HB.out | apply below_alloc | apply pw_below_drewN | apply below_drew1 | refine below_set ?_ GE115.out) | exact HB.out))) : w.heap.size ≤ gb122)); have n5_ := Aside0.mk ((by rw [hg]; exact (below_size (by repeat (first | (with_reducible first | exact HB.out | apply below_alloc | apply pw_below_drewN | apply below_drew1 | refine below_set ?_ GE115.out) | exact HB.out))) : w.heap.size ≤ gb122)); have n6_ := Aside0.mk ((by rw [hg]; exact Nat.ne_of_lt (blk_lt (g := gb115) (o := .cells #[.bool a0_0, .bool a0_1, .bool a0_2, .bool a0_3, .int .u32 a0_4, .int .u32 a0_5, .int .i64 a0_6] 24 (0, 0)) (by (with_reducible repeat (first | refine blk_drewN ?_ _ | refine blk_drew ?_ | refine blk_alloc ?_ _)); exact BK115.out)) : gb115 ≠ gb122)); have n7_ := Aside0.mk ((by rw [hg]; exact Nat.ne_of_gt (blk_lt (g := gb115) (o := .cells #[.bool a0_0, .bool a0_1, .bool a0_2, .bool a0_3, .int .u32 a0_4, .int .u32 a0_5, .int .i64 a0_6] 24 (0, 0)) (by (with_reducible repeat (first | refine blk_drewN ?_ _ | refine blk_drew ?_ | refine blk_alloc ?_ _)); exact BK115.out)) : gb122 ≠ gb115)); clear HO121; clear BK115; clear HB; have HO121 := n0_; have BK115 := n1_; have HB := n2_; have BK122 := n3_; have GW122 := n4_; have GE122 := n5_; have NB115_122 := n6_; have NB122_115 := n7_; clear n0_ n1_ n2_ n3_ n4_ n5_ n6_ n7_; clear hb hbox hg; have hnb24 := NB122_115.out; have hnc24 := NB115_122.out; have hcz25_0 : w23.cell? ⟨gb122, 0, none⟩ = some (.bool false) := (blk_cell BK122.out 0).trans rfl; have hcz25_1 : w23.cell? ⟨gb122, 1, none⟩ = some (.bool false) := (blk_cell BK122.out 1).trans rfl; have hcz25_2 : w23.cell? ⟨gb122, 2, none⟩ = some (.bool false) := (blk_cell BK122.out 2).trans rfl; have hcz25_3 : w23.cell? ⟨gb122, 3, none⟩ = some (.bool false) := (blk_cell BK122.out 3).trans rfl; have hcz25_4 : w23.cell? ⟨gb122, 4, none⟩ = some (.int .u32 0) := (blk_cell BK122.out 4).trans rfl; have hcz25_5 : w23.cell? ⟨gb122, 5, none⟩ = some (.int .u32 0) := (blk_cell BK122.out 5).trans rfl; have hcz25_6 : w23.cell? ⟨gb122, 6, none⟩ = some (.int .i64 0) := (blk_cell BK122.out 6).trans rfl; have hfz25_0 := blk_frozen BK122.out 0; have hfz25_1 := blk_frozen BK122.out 1; have hfz25_2 := blk_frozen BK122.out 2; have hfz25_3 := blk_frozen BK122.out 3; have hfz25_4 := blk_frozen BK122.out 4; have hfz25_5 := blk_frozen BK122.out 5; have hfz25_6 := blk_frozen BK122.out 6))
        (try simp only [Act.put, List.setIfInBounds_toArray, List.set_cons_zero, List.set_cons_succ])
        go_cut [] (fun wc => ∃ (kq : Nat) (x123002_18 : Bool), Aside0 (marlinelaw10_HeadBack.j1 kq a1 l2 a4 t119 a0_0 a0_1 a0_2 a0_3 a0_4 a0_5 a0_6 a0_0 a0_1 x123002_18 a0_3 a0_4 a0_5 a0_6 = some r) ∧ Aside0 (kq ≤ kj5) ∧ Aside0 (Kd.Q (Kd.int .u8) 5 wc w.heap.size (fun _ => True) v120 t119) ∧ Aside0 (wc.heap[gb115]? = some (.cells #[.bool a0_0, .bool a0_1, .bool a0_2, .bool a0_3, .int .u32 a0_4, .int .u32 a0_5, .int .i64 a0_6] 24 (0, 0))) ∧ Aside0 (wc.heap[gb122]? = some (.cells #[.bool a0_0, .bool a0_1, .bool x123002_18, .bool a0_3, .int .u32 a0_4, .int .u32 a0_5, .int .i64 a0_6] 24 (0, 0))) ∧ Aside0 (Below w.heap.size w wc))
        case first =>
          have H := HC19.out
          clear HC19
          by_cases c26 : a0_2 = true
          · subst c26
            have H1 : (marlinelaw10_HeadBack.j1 kj5 a1 l2 a4 t119 a0_0 a0_1 true a0_3 a0_4 a0_5 a0_6 a0_0 a0_1 true a0_3 a0_4 a0_5 a0_6) = some r := by rw [if_pos rfl] at H; exact H
            clear H
            have H := H1
            clear H1
            have H' := Aside0.mk H
            clear H
            have hnb27 := NB115_122.out
            have hnc27 := NB122_115.out
            have hcz28_0 : w23.cell? ⟨gb115, 0, none⟩ = some (.bool a0_0) := (blk_cell BK115.out 0).trans rfl
            have hcz28_1 : w23.cell? ⟨gb115, 1, none⟩ = some (.bool a0_1) := (blk_cell BK115.out 1).trans rfl
            have hcz28_2 : w23.cell? ⟨gb115, 2, none⟩ = some (.bool true) := (blk_cell BK115.out 2).trans rfl
            have hcz28_3 : w23.cell? ⟨gb115, 3, none⟩ = some (.bool a0_3) := (blk_cell BK115.out 3).trans rfl
            have hcz28_4 : w23.cell? ⟨gb115, 4, none⟩ = some (.int .u32 a0_4) := (blk_cell BK115.out 4).trans rfl
            have hcz28_5 : w23.cell? ⟨gb115, 5, none⟩ = some (.int .u32 a0_5) := (blk_cell BK115.out 5).trans rfl
            have hcz28_6 : w23.cell? ⟨gb115, 6, none⟩ = some (.int .i64 a0_6) := (blk_cell BK115.out 6).trans rfl
            have hfz28_0 := blk_frozen BK115.out 0
            have hfz28_1 := blk_frozen BK115.out 1
            have hfz28_2 := blk_frozen BK115.out 2
            have hfz28_3 := blk_frozen BK115.out 3
            have hfz28_4 := blk_frozen BK115.out 4
            have hfz28_5 := blk_frozen BK115.out 5
            have hfz28_6 := blk_frozen BK115.out 6
            have hcz29_0 : w23.cell? ⟨gb122, 0, none⟩ = some (.bool false) := (blk_cell BK122.out 0).trans rfl
            have hcz29_1 : w23.cell? ⟨gb122, 1, none⟩ = some (.bool false) := (blk_cell BK122.out 1).trans rfl
            have hcz29_2 : w23.cell? ⟨gb122, 2, none⟩ = some (.bool false) := (blk_cell BK122.out 2).trans rfl
            have hcz29_3 : w23.cell? ⟨gb122, 3, none⟩ = some (.bool false) := (blk_cell BK122.out 3).trans rfl
            have hcz29_4 : w23.cell? ⟨gb122, 4, none⟩ = some (.int .u32 0) := (blk_cell BK122.out 4).trans rfl
            have hcz29_5 : w23.cell? ⟨gb122, 5, none⟩ = some (.int .u32 0) := (blk_cell BK122.out 5).trans rfl
            have hcz29_6 : w23.cell? ⟨gb122, 6, none⟩ = some (.int .i64 0) := (blk_cell BK122.out 6).trans rfl
            have hfz29_0 := blk_frozen BK122.out 0
            have hfz29_1 := blk_frozen BK122.out 1
            have hfz29_2 := blk_frozen BK122.out 2
            have hfz29_3 := blk_frozen BK122.out 3
            have hfz29_4 := blk_frozen BK122.out 4
            have hfz29_5 := blk_frozen BK122.out 5
            have hfz29_6 := blk_frozen BK122.out 6
            go_wp2
            go_meet
            case rel => exact ⟨_, (true), H', ⟨by have := HJ5.out; first | omega | exact Nat.le_refl _⟩, ⟨by (with_reducible repeat (first | apply Kd.Q_alloc | apply Kd.Q_drewN | apply Kd.Q_drew)); exact Kd.Q_mono (Kd.Q_far (p := ⟨gb122, 2, none⟩) (Kd.Q_far (p := ⟨gb122, 6, none⟩) (Kd.Q_far (p := ⟨gb122, 5, none⟩) (Kd.Q_far (p := ⟨gb122, 4, none⟩) (Kd.Q_far (p := ⟨gb122, 3, none⟩) (Kd.Q_far (p := ⟨gb122, 2, none⟩) (Kd.Q_far (p := ⟨gb122, 1, none⟩) (Kd.Q_far (p := ⟨gb122, 0, none⟩) (Kd.Q_types HO121.out BK122.out (by decide)) (fun _ hk => hk.2) (.bool a0_0)) (fun _ hk => hk.2) (.bool a0_1)) (fun _ hk => hk.2) (.bool true)) (fun _ hk => hk.2) (.bool a0_3)) (fun _ hk => hk.2) (.int .u32 a0_4)) (fun _ hk => hk.2) (.int .u32 a0_5)) (fun _ hk => hk.2) (.int .i64 a0_6)) (fun _ hk => hk.2) (.bool true)) (fun _ hk => trivial)⟩, ⟨by (with_reducible repeat (first | refine blk_drewN ?_ _ | refine blk_drew ?_ | refine blk_alloc ?_ _)); refine blk_far ?_ NB115_122.out _; (with_reducible repeat (first | refine blk_drewN ?_ _ | refine blk_drew ?_ | refine blk_alloc ?_ _)); refine blk_far ?_ NB115_122.out _; (with_reducible repeat (first | refine blk_drewN ?_ _ | refine blk_drew ?_ | refine blk_alloc ?_ _)); refine blk_far ?_ NB115_122.out _; (with_reducible repeat (first | refine blk_drewN ?_ _ | refine blk_drew ?_ | refine blk_alloc ?_ _)); refine blk_far ?_ NB115_122.out _; (with_reducible repeat (first | refine blk_drewN ?_ _ | refine blk_drew ?_ | refine blk_alloc ?_ _)); refine blk_far ?_ NB115_122.out _; (with_reducible repeat (first | refine blk_drewN ?_ _ | refine blk_drew ?_ | refine blk_alloc ?_ _)); refine blk_far ?_ NB115_122.out _; (with_reducible repeat (first | refine blk_drewN ?_ _ | refine blk_drew ?_ | refine blk_alloc ?_ _)); refine blk_far ?_ NB115_122.out _; (with_reducible repeat (first | refine blk_drewN ?_ _ | refine blk_drew ?_ | refine blk_alloc ?_ _)); refine blk_far ?_ NB115_122.out _; (with_reducible repeat (first | refine blk_drewN ?_ _ | refine blk_drew ?_ | refine blk_alloc ?_ _)); exact BK115.out⟩, ⟨by (with_reducible repeat (first | refine blk_drewN ?_ _ | refine blk_drew ?_ | refine blk_alloc ?_ _)); refine blk_put (cs := #[.bool a0_0, .bool a0_1, .bool true, .bool a0_3, .int .u32 a0_4, .int .u32 a0_5, .int .i64 a0_6]) ?_ 2 _ rfl; (with_reducible repeat (first | refine blk_drewN ?_ _ | refine blk_drew ?_ | refine blk_alloc ?_ _)); refine blk_put (cs := #[.bool a0_0, .bool a0_1, .bool true, .bool a0_3, .int .u32 a0_4, .int .u32 a0_5, .int .i64 0]) ?_ 6 _ rfl; (with_reducible repeat (first | refine blk_drewN ?_ _ | refine blk_drew ?_ | refine blk_alloc ?_ _)); refine blk_put (cs := #[.bool a0_0, .bool a0_1, .bool true, .bool a0_3, .int .u32 a0_4, .int .u32 0, .int .i64 0]) ?_ 5 _ rfl; (with_reducible repeat (first | refine blk_drewN ?_ _ | refine blk_drew ?_ | refine blk_alloc ?_ _)); refine blk_put (cs := #[.bool a0_0, .bool a0_1, .bool true, .bool a0_3, .int .u32 0, .int .u32 0, .int .i64 0]) ?_ 4 _ rfl; (with_reducible repeat (first | refine blk_drewN ?_ _ | refine blk_drew ?_ | refine blk_alloc ?_ _)); refine blk_put (cs := #[.bool a0_0, .bool a0_1, .bool true, .bool false, .int .u32 0, .int .u32 0, .int .i64 0]) ?_ 3 _ rfl; (with_reducible repeat (first | refine blk_drewN ?_ _ | refine blk_drew ?_ | refine blk_alloc ?_ _)); refine blk_put (cs := #[.bool a0_0, .bool a0_1, .bool false, .bool false, .int .u32 0, .int .u32 0, .int .i64 0]) ?_ 2 _ rfl; (with_reducible repeat (first | refine blk_drewN ?_ _ | refine blk_drew ?_ | refine blk_alloc ?_ _)); refine blk_put (cs := #[.bool a0_0, .bool false, .bool false, .bool false, .int .u32 0, .int .u32 0, .int .i64 0]) ?_ 1 _ rfl; (with_reducible repeat (first | refine blk_drewN ?_ _ | refine blk_drew ?_ | refine blk_alloc ?_ _)); refine blk_put (cs := #[.bool false, .bool false, .bool false, .bool false, .int .u32 0, .int .u32 0, .int .i64 0]) ?_ 0 _ rfl; (with_reducible repeat (first | refine blk_drewN ?_ _ | refine blk_drew ?_ | refine blk_alloc ?_ _)); exact BK122.out⟩, ⟨by repeat (first | (with_reducible first | exact HB.out | apply below_alloc | apply pw_below_drewN | apply below_drew1 | refine below_set ?_ GE115.out | refine below_set ?_ GE122.out) | exact HB.out)⟩⟩
          · replace c26 := Bool.eq_false_iff.mpr c26
            subst c26
            have H1 : (marlinelaw10_HeadBack.j1 kj5 a1 l2 a4 t119 a0_0 a0_1 false a0_3 a0_4 a0_5 a0_6 a0_0 a0_1 a3 a0_3 a0_4 a0_5 a0_6) = some r := by rw [if_neg (show ¬ (false = true) by decide)] at H; exact H
            clear H
            have H := H1
            clear H1
            have H' := Aside0.mk H
            clear H
            have hnb30 := NB115_122.out
            have hnc30 := NB122_115.out
            have hcz31_0 : w23.cell? ⟨gb115, 0, none⟩ = some (.bool a0_0) := (blk_cell BK115.out 0).trans rfl
            have hcz31_1 : w23.cell? ⟨gb115, 1, none⟩ = some (.bool a0_1) := (blk_cell BK115.out 1).trans rfl
            have hcz31_2 : w23.cell? ⟨gb115, 2, none⟩ = some (.bool false) := (blk_cell BK115.out 2).trans rfl
            have hcz31_3 : w23.cell? ⟨gb115, 3, none⟩ = some (.bool a0_3) := (blk_cell BK115.out 3).trans rfl
            have hcz31_4 : w23.cell? ⟨gb115, 4, none⟩ = some (.int .u32 a0_4) := (blk_cell BK115.out 4).trans rfl
            have hcz31_5 : w23.cell? ⟨gb115, 5, none⟩ = some (.int .u32 a0_5) := (blk_cell BK115.out 5).trans rfl
            have hcz31_6 : w23.cell? ⟨gb115, 6, none⟩ = some (.int .i64 a0_6) := (blk_cell BK115.out 6).trans rfl
            have hfz31_0 := blk_frozen BK115.out 0
            have hfz31_1 := blk_frozen BK115.out 1
            have hfz31_2 := blk_frozen BK115.out 2
            have hfz31_3 := blk_frozen BK115.out 3
            have hfz31_4 := blk_frozen BK115.out 4
            have hfz31_5 := blk_frozen BK115.out 5
            have hfz31_6 := blk_frozen BK115.out 6
            have hcz32_0 : w23.cell? ⟨gb122, 0, none⟩ = some (.bool false) := (blk_cell BK122.out 0).trans rfl
            have hcz32_1 : w23.cell? ⟨gb122, 1, none⟩ = some (.bool false) := (blk_cell BK122.out 1).trans rfl
            have hcz32_2 : w23.cell? ⟨gb122, 2, none⟩ = some (.bool false) := (blk_cell BK122.out 2).trans rfl
            have hcz32_3 : w23.cell? ⟨gb122, 3, none⟩ = some (.bool false) := (blk_cell BK122.out 3).trans rfl
            have hcz32_4 : w23.cell? ⟨gb122, 4, none⟩ = some (.int .u32 0) := (blk_cell BK122.out 4).trans rfl
            have hcz32_5 : w23.cell? ⟨gb122, 5, none⟩ = some (.int .u32 0) := (blk_cell BK122.out 5).trans rfl
            have hcz32_6 : w23.cell? ⟨gb122, 6, none⟩ = some (.int .i64 0) := (blk_cell BK122.out 6).trans rfl
            have hfz32_0 := blk_frozen BK122.out 0
            have hfz32_1 := blk_frozen BK122.out 1
            have hfz32_2 := blk_frozen BK122.out 2
            have hfz32_3 := blk_frozen BK122.out 3
            have hfz32_4 := blk_frozen BK122.out 4
            have hfz32_5 := blk_frozen BK122.out 5
            have hfz32_6 := blk_frozen BK122.out 6
            go_wp2
            go_meet
            case rel => exact ⟨_, (a3), H', ⟨by have := HJ5.out; first | omega | exact Nat.le_refl _⟩, ⟨by (with_reducible repeat (first | apply Kd.Q_alloc | apply Kd.Q_drewN | apply Kd.Q_drew)); exact Kd.Q_mono (Kd.Q_far (p := ⟨gb122, 2, none⟩) (Kd.Q_far (p := ⟨gb122, 6, none⟩) (Kd.Q_far (p := ⟨gb122, 5, none⟩) (Kd.Q_far (p := ⟨gb122, 4, none⟩) (Kd.Q_far (p := ⟨gb122, 3, none⟩) (Kd.Q_far (p := ⟨gb122, 2, none⟩) (Kd.Q_far (p := ⟨gb122, 1, none⟩) (Kd.Q_far (p := ⟨gb122, 0, none⟩) (Kd.Q_types HO121.out BK122.out (by decide)) (fun _ hk => hk.2) (.bool a0_0)) (fun _ hk => hk.2) (.bool a0_1)) (fun _ hk => hk.2) (.bool false)) (fun _ hk => hk.2) (.bool a0_3)) (fun _ hk => hk.2) (.int .u32 a0_4)) (fun _ hk => hk.2) (.int .u32 a0_5)) (fun _ hk => hk.2) (.int .i64 a0_6)) (fun _ hk => hk.2) (.bool a3)) (fun _ hk => trivial)⟩, ⟨by (with_reducible repeat (first | refine blk_drewN ?_ _ | refine blk_drew ?_ | refine blk_alloc ?_ _)); refine blk_far ?_ NB115_122.out _; (with_reducible repeat (first | refine blk_drewN ?_ _ | refine blk_drew ?_ | refine blk_alloc ?_ _)); refine blk_far ?_ NB115_122.out _; (with_reducible repeat (first | refine blk_drewN ?_ _ | refine blk_drew ?_ | refine blk_alloc ?_ _)); refine blk_far ?_ NB115_122.out _; (with_reducible repeat (first | refine blk_drewN ?_ _ | refine blk_drew ?_ | refine blk_alloc ?_ _)); refine blk_far ?_ NB115_122.out _; (with_reducible repeat (first | refine blk_drewN ?_ _ | refine blk_drew ?_ | refine blk_alloc ?_ _)); refine blk_far ?_ NB115_122.out _; (with_reducible repeat (first | refine blk_drewN ?_ _ | refine blk_drew ?_ | refine blk_alloc ?_ _)); refine blk_far ?_ NB115_122.out _; (with_reducible repeat (first | refine blk_drewN ?_ _ | refine blk_drew ?_ | refine blk_alloc ?_ _)); refine blk_far ?_ NB115_122.out _; (with_reducible repeat (first | refine blk_drewN ?_ _ | refine blk_drew ?_ | refine blk_alloc ?_ _)); refine blk_far ?_ NB115_122.out _; (with_reducible repeat (first | refine blk_drewN ?_ _ | refine blk_drew ?_ | refine blk_alloc ?_ _)); exact BK115.out⟩, ⟨by (with_reducible repeat (first | refine blk_drewN ?_ _ | refine blk_drew ?_ | refine blk_alloc ?_ _)); refine blk_put (cs := #[.bool a0_0, .bool a0_1, .bool false, .bool a0_3, .int .u32 a0_4, .int .u32 a0_5, .int .i64 a0_6]) ?_ 2 _ rfl; (with_reducible repeat (first | refine blk_drewN ?_ _ | refine blk_drew ?_ | refine blk_alloc ?_ _)); refine blk_put (cs := #[.bool a0_0, .bool a0_1, .bool false, .bool a0_3, .int .u32 a0_4, .int .u32 a0_5, .int .i64 0]) ?_ 6 _ rfl; (with_reducible repeat (first | refine blk_drewN ?_ _ | refine blk_drew ?_ | refine blk_alloc ?_ _)); refine blk_put (cs := #[.bool a0_0, .bool a0_1, .bool false, .bool a0_3, .int .u32 a0_4, .int .u32 0, .int .i64 0]) ?_ 5 _ rfl; (with_reducible repeat (first | refine blk_drewN ?_ _ | refine blk_drew ?_ | refine blk_alloc ?_ _)); refine blk_put (cs := #[.bool a0_0, .bool a0_1, .bool false, .bool a0_3, .int .u32 0, .int .u32 0, .int .i64 0]) ?_ 4 _ rfl; (with_reducible repeat (first | refine blk_drewN ?_ _ | refine blk_drew ?_ | refine blk_alloc ?_ _)); refine blk_put (cs := #[.bool a0_0, .bool a0_1, .bool false, .bool false, .int .u32 0, .int .u32 0, .int .i64 0]) ?_ 3 _ rfl; (with_reducible repeat (first | refine blk_drewN ?_ _ | refine blk_drew ?_ | refine blk_alloc ?_ _)); refine blk_put (cs := #[.bool a0_0, .bool a0_1, .bool false, .bool false, .int .u32 0, .int .u32 0, .int .i64 0]) ?_ 2 _ rfl; (with_reducible repeat (first | refine blk_drewN ?_ _ | refine blk_drew ?_ | refine blk_alloc ?_ _)); refine blk_put (cs := #[.bool a0_0, .bool false, .bool false, .bool false, .int .u32 0, .int .u32 0, .int .i64 0]) ?_ 1 _ rfl; (with_reducible repeat (first | refine blk_drewN ?_ _ | refine blk_drew ?_ | refine blk_alloc ?_ _)); refine blk_put (cs := #[.bool false, .bool false, .bool false, .bool false, .int .u32 0, .int .u32 0, .int .i64 0]) ?_ 0 _ rfl; (with_reducible repeat (first | refine blk_drewN ?_ _ | refine blk_drew ?_ | refine blk_alloc ?_ _)); exact BK122.out⟩, ⟨by repeat (first | (with_reducible first | exact HB.out | apply below_alloc | apply pw_below_drewN | apply below_drew1 | refine below_set ?_ GE115.out | refine below_set ?_ GE122.out) | exact HB.out)⟩⟩
        case rest =>
          clear HC19
          try clear c1
          try clear c2
          try clear p2
          try clear c3
          try clear p6
          try clear c9
          try clear c10
          try clear c10b0
          try clear c10b1
          try clear c12
          try clear c15
          try clear c24
          try clear c26
          try clear c27
          try clear c28
          try clear c30
          try clear c32
          try clear hcz20_0
          try clear hcz20_1
          try clear hcz20_2
          try clear hcz20_3
          try clear hcz20_4
          try clear hcz20_5
          try clear hcz20_6
          try clear hcz22_0
          try clear hcz22_1
          try clear hcz22_2
          try clear hcz22_3
          try clear hcz22_4
          try clear hcz22_5
          try clear hcz22_6
          try clear hcz25_0
          try clear hcz25_1
          try clear hcz25_2
          try clear hcz25_3
          try clear hcz25_4
          try clear hcz25_5
          try clear hcz25_6
          try clear hcz28_0
          try clear hcz28_1
          try clear hcz28_2
          try clear hcz28_3
          try clear hcz28_4
          try clear hcz28_5
          try clear hcz28_6
          try clear hcz29_0
          try clear hcz29_1
          try clear hcz29_2
          try clear hcz29_3
          try clear hcz29_4
          try clear hcz29_5
          try clear hcz29_6
          try clear hcz31_0
          try clear hcz31_1
          try clear hcz31_2
          try clear hcz31_3
          try clear hcz31_4
          try clear hcz31_5
          try clear hcz31_6
          try clear hcz32_0
          try clear hcz32_1
          try clear hcz32_2
          try clear hcz32_3
          try clear hcz32_4
          try clear hcz32_5
          try clear hcz32_6
          try clear hfz20_0
          try clear hfz20_1
          try clear hfz20_2
          try clear hfz20_3
          try clear hfz20_4
          try clear hfz20_5
          try clear hfz20_6
          try clear hfz22_0
          try clear hfz22_1
          try clear hfz22_2
          try clear hfz22_3
          try clear hfz22_4
          try clear hfz22_5
          try clear hfz22_6
          try clear hfz25_0
          try clear hfz25_1
          try clear hfz25_2
          try clear hfz25_3
          try clear hfz25_4
          try clear hfz25_5
          try clear hfz25_6
          try clear hfz28_0
          try clear hfz28_1
          try clear hfz28_2
          try clear hfz28_3
          try clear hfz28_4
          try clear hfz28_5
          try clear hfz28_6
          try clear hfz29_0
          try clear hfz29_1
          try clear hfz29_2
          try clear hfz29_3
          try clear hfz29_4
          try clear hfz29_5
          try clear hfz29_6
          try clear hfz31_0
          try clear hfz31_1
          try clear hfz31_2
          try clear hfz31_3
          try clear hfz31_4
          try clear hfz31_5
          try clear hfz31_6
          try clear hfz32_0
          try clear hfz32_1
          try clear hfz32_2
          try clear hfz32_3
          try clear hfz32_4
          try clear hfz32_5
          try clear hfz32_6
          try clear p2
          try clear p6
          obtain ⟨kq, x123002_18, HA, HJ18, HO_11, BK115, BK122, HB⟩ := hcut
          cases kq with
          | zero => exact absurd HA.out (by simp [marlinelaw10_HeadBack.j1])
          | succ kj18 =>
            have H := HA.out
            clear HA
            simp only [marlinelaw10_HeadBack.j1] at H
            have HC33 := Aside0.mk H
            clear H
            go_upto_region 6 with (fail)
            go_cut [] (fun wc => ∃ (kq : Nat) (x123003_32 : Bool), Aside0 (marlinelaw10_HeadBack.j2 kq a1 l2 t119 a0_0 a0_1 a0_2 a0_3 a0_4 a0_5 a0_6 a0_0 a0_1 x123002_18 x123003_32 a0_4 a0_5 a0_6 = some r) ∧ Aside0 (kq ≤ kj18) ∧ Aside0 (Kd.Q (Kd.int .u8) 5 wc w.heap.size (fun _ => True) v120 t119) ∧ Aside0 (wc.heap[gb115]? = some (.cells #[.bool a0_0, .bool a0_1, .bool a0_2, .bool a0_3, .int .u32 a0_4, .int .u32 a0_5, .int .i64 a0_6] 24 (0, 0))) ∧ Aside0 (wc.heap[gb122]? = some (.cells #[.bool a0_0, .bool a0_1, .bool x123002_18, .bool x123003_32, .int .u32 a0_4, .int .u32 a0_5, .int .i64 a0_6] 24 (0, 0))) ∧ Aside0 (Below w.heap.size w wc))
            case first =>
              have H := HC33.out
              clear HC33
              by_cases c34 : a0_3 = true
              · subst c34
                have H1 : (marlinelaw10_HeadBack.j2 kj18 a1 l2 t119 a0_0 a0_1 a0_2 true a0_4 a0_5 a0_6 a0_0 a0_1 x123002_18 true a0_4 a0_5 a0_6) = some r := by rw [if_pos rfl] at H; exact H
                clear H
                have H := H1
                clear H1
                have H' := Aside0.mk H
                clear H
                have hnb35 := NB115_122.out
                have hnc35 := NB122_115.out
                have hcz36_0 : wc.cell? ⟨gb115, 0, none⟩ = some (.bool a0_0) := (blk_cell BK115.out 0).trans rfl
                have hcz36_1 : wc.cell? ⟨gb115, 1, none⟩ = some (.bool a0_1) := (blk_cell BK115.out 1).trans rfl
                have hcz36_2 : wc.cell? ⟨gb115, 2, none⟩ = some (.bool a0_2) := (blk_cell BK115.out 2).trans rfl
                have hcz36_3 : wc.cell? ⟨gb115, 3, none⟩ = some (.bool true) := (blk_cell BK115.out 3).trans rfl
                have hcz36_4 : wc.cell? ⟨gb115, 4, none⟩ = some (.int .u32 a0_4) := (blk_cell BK115.out 4).trans rfl
                have hcz36_5 : wc.cell? ⟨gb115, 5, none⟩ = some (.int .u32 a0_5) := (blk_cell BK115.out 5).trans rfl
                have hcz36_6 : wc.cell? ⟨gb115, 6, none⟩ = some (.int .i64 a0_6) := (blk_cell BK115.out 6).trans rfl
                have hfz36_0 := blk_frozen BK115.out 0
                have hfz36_1 := blk_frozen BK115.out 1
                have hfz36_2 := blk_frozen BK115.out 2
                have hfz36_3 := blk_frozen BK115.out 3
                have hfz36_4 := blk_frozen BK115.out 4
                have hfz36_5 := blk_frozen BK115.out 5
                have hfz36_6 := blk_frozen BK115.out 6
                have hcz37_0 : wc.cell? ⟨gb122, 0, none⟩ = some (.bool a0_0) := (blk_cell BK122.out 0).trans rfl
                have hcz37_1 : wc.cell? ⟨gb122, 1, none⟩ = some (.bool a0_1) := (blk_cell BK122.out 1).trans rfl
                have hcz37_2 : wc.cell? ⟨gb122, 2, none⟩ = some (.bool x123002_18) := (blk_cell BK122.out 2).trans rfl
                have hcz37_3 : wc.cell? ⟨gb122, 3, none⟩ = some (.bool true) := (blk_cell BK122.out 3).trans rfl
                have hcz37_4 : wc.cell? ⟨gb122, 4, none⟩ = some (.int .u32 a0_4) := (blk_cell BK122.out 4).trans rfl
                have hcz37_5 : wc.cell? ⟨gb122, 5, none⟩ = some (.int .u32 a0_5) := (blk_cell BK122.out 5).trans rfl
                have hcz37_6 : wc.cell? ⟨gb122, 6, none⟩ = some (.int .i64 a0_6) := (blk_cell BK122.out 6).trans rfl
                have hfz37_0 := blk_frozen BK122.out 0
                have hfz37_1 := blk_frozen BK122.out 1
                have hfz37_2 := blk_frozen BK122.out 2
                have hfz37_3 := blk_frozen BK122.out 3
                have hfz37_4 := blk_frozen BK122.out 4
                have hfz37_5 := blk_frozen BK122.out 5
                have hfz37_6 := blk_frozen BK122.out 6
                go_wp2
                go_meet
                case rel => exact ⟨_, (true), H', ⟨by have := HJ5.out; have := HJ18.out; first | omega | exact Nat.le_refl _⟩, ⟨by (with_reducible repeat (first | apply Kd.Q_alloc | apply Kd.Q_drewN | apply Kd.Q_drew)); exact Kd.Q_mono (Kd.Q_far (p := ⟨gb122, 3, none⟩) (Kd.Q_types HO_11.out BK122.out (by decide)) (fun _ hk => hk.2) (.bool true)) (fun _ hk => trivial)⟩, ⟨by (with_reducible repeat (first | refine blk_drewN ?_ _ | refine blk_drew ?_ | refine blk_alloc ?_ _)); refine blk_far ?_ NB115_122.out _; (with_reducible repeat (first | refine blk_drewN ?_ _ | refine blk_drew ?_ | refine blk_alloc ?_ _)); exact BK115.out⟩, ⟨by (with_reducible repeat (first | refine blk_drewN ?_ _ | refine blk_drew ?_ | refine blk_alloc ?_ _)); refine blk_put (cs := #[.bool a0_0, .bool a0_1, .bool x123002_18, .bool true, .int .u32 a0_4, .int .u32 a0_5, .int .i64 a0_6]) ?_ 3 _ rfl; (with_reducible repeat (first | refine blk_drewN ?_ _ | refine blk_drew ?_ | refine blk_alloc ?_ _)); exact BK122.out⟩, ⟨by repeat (first | (with_reducible first | exact HB.out | apply below_alloc | apply pw_below_drewN | apply below_drew1 | refine below_set ?_ GE115.out | refine below_set ?_ GE122.out) | exact HB.out)⟩⟩
              · replace c34 := Bool.eq_false_iff.mpr c34
                subst c34
                have H1 : (marlinelaw10_HeadBack.j2 kj18 a1 l2 t119 a0_0 a0_1 a0_2 false a0_4 a0_5 a0_6 a0_0 a0_1 x123002_18 a4 a0_4 a0_5 a0_6) = some r := by rw [if_neg (show ¬ (false = true) by decide)] at H; exact H
                clear H
                have H := H1
                clear H1
                have H' := Aside0.mk H
                clear H
                have hnb38 := NB115_122.out
                have hnc38 := NB122_115.out
                have hcz39_0 : wc.cell? ⟨gb115, 0, none⟩ = some (.bool a0_0) := (blk_cell BK115.out 0).trans rfl
                have hcz39_1 : wc.cell? ⟨gb115, 1, none⟩ = some (.bool a0_1) := (blk_cell BK115.out 1).trans rfl
                have hcz39_2 : wc.cell? ⟨gb115, 2, none⟩ = some (.bool a0_2) := (blk_cell BK115.out 2).trans rfl
                have hcz39_3 : wc.cell? ⟨gb115, 3, none⟩ = some (.bool false) := (blk_cell BK115.out 3).trans rfl
                have hcz39_4 : wc.cell? ⟨gb115, 4, none⟩ = some (.int .u32 a0_4) := (blk_cell BK115.out 4).trans rfl
                have hcz39_5 : wc.cell? ⟨gb115, 5, none⟩ = some (.int .u32 a0_5) := (blk_cell BK115.out 5).trans rfl
                have hcz39_6 : wc.cell? ⟨gb115, 6, none⟩ = some (.int .i64 a0_6) := (blk_cell BK115.out 6).trans rfl
                have hfz39_0 := blk_frozen BK115.out 0
                have hfz39_1 := blk_frozen BK115.out 1
                have hfz39_2 := blk_frozen BK115.out 2
                have hfz39_3 := blk_frozen BK115.out 3
                have hfz39_4 := blk_frozen BK115.out 4
                have hfz39_5 := blk_frozen BK115.out 5
                have hfz39_6 := blk_frozen BK115.out 6
                have hcz40_0 : wc.cell? ⟨gb122, 0, none⟩ = some (.bool a0_0) := (blk_cell BK122.out 0).trans rfl
                have hcz40_1 : wc.cell? ⟨gb122, 1, none⟩ = some (.bool a0_1) := (blk_cell BK122.out 1).trans rfl
                have hcz40_2 : wc.cell? ⟨gb122, 2, none⟩ = some (.bool x123002_18) := (blk_cell BK122.out 2).trans rfl
                have hcz40_3 : wc.cell? ⟨gb122, 3, none⟩ = some (.bool false) := (blk_cell BK122.out 3).trans rfl
                have hcz40_4 : wc.cell? ⟨gb122, 4, none⟩ = some (.int .u32 a0_4) := (blk_cell BK122.out 4).trans rfl
                have hcz40_5 : wc.cell? ⟨gb122, 5, none⟩ = some (.int .u32 a0_5) := (blk_cell BK122.out 5).trans rfl
                have hcz40_6 : wc.cell? ⟨gb122, 6, none⟩ = some (.int .i64 a0_6) := (blk_cell BK122.out 6).trans rfl
                have hfz40_0 := blk_frozen BK122.out 0
                have hfz40_1 := blk_frozen BK122.out 1
                have hfz40_2 := blk_frozen BK122.out 2
                have hfz40_3 := blk_frozen BK122.out 3
                have hfz40_4 := blk_frozen BK122.out 4
                have hfz40_5 := blk_frozen BK122.out 5
                have hfz40_6 := blk_frozen BK122.out 6
                go_wp2
                go_meet
                case rel => exact ⟨_, (a4), H', ⟨by have := HJ5.out; have := HJ18.out; first | omega | exact Nat.le_refl _⟩, ⟨by (with_reducible repeat (first | apply Kd.Q_alloc | apply Kd.Q_drewN | apply Kd.Q_drew)); exact Kd.Q_mono (Kd.Q_far (p := ⟨gb122, 3, none⟩) (Kd.Q_types HO_11.out BK122.out (by decide)) (fun _ hk => hk.2) (.bool a4)) (fun _ hk => trivial)⟩, ⟨by (with_reducible repeat (first | refine blk_drewN ?_ _ | refine blk_drew ?_ | refine blk_alloc ?_ _)); refine blk_far ?_ NB115_122.out _; (with_reducible repeat (first | refine blk_drewN ?_ _ | refine blk_drew ?_ | refine blk_alloc ?_ _)); exact BK115.out⟩, ⟨by (with_reducible repeat (first | refine blk_drewN ?_ _ | refine blk_drew ?_ | refine blk_alloc ?_ _)); refine blk_put (cs := #[.bool a0_0, .bool a0_1, .bool x123002_18, .bool false, .int .u32 a0_4, .int .u32 a0_5, .int .i64 a0_6]) ?_ 3 _ rfl; (with_reducible repeat (first | refine blk_drewN ?_ _ | refine blk_drew ?_ | refine blk_alloc ?_ _)); exact BK122.out⟩, ⟨by repeat (first | (with_reducible first | exact HB.out | apply below_alloc | apply pw_below_drewN | apply below_drew1 | refine below_set ?_ GE115.out | refine below_set ?_ GE122.out) | exact HB.out)⟩⟩
            case rest =>
              clear HC33
              try clear c1
              try clear c2
              try clear p2
              try clear c3
              try clear p6
              try clear c9
              try clear c10
              try clear c10b0
              try clear c10b1
              try clear c12
              try clear c15
              try clear c24
              try clear c26
              try clear c27
              try clear c28
              try clear c30
              try clear c32
              try clear c34
              try clear c35
              try clear c38
              try clear hcz20_0
              try clear hcz20_1
              try clear hcz20_2
              try clear hcz20_3
              try clear hcz20_4
              try clear hcz20_5
              try clear hcz20_6
              try clear hcz22_0
              try clear hcz22_1
              try clear hcz22_2
              try clear hcz22_3
              try clear hcz22_4
              try clear hcz22_5
              try clear hcz22_6
              try clear hcz25_0
              try clear hcz25_1
              try clear hcz25_2
              try clear hcz25_3
              try clear hcz25_4
              try clear hcz25_5
              try clear hcz25_6
              try clear hcz28_0
              try clear hcz28_1
              try clear hcz28_2
              try clear hcz28_3
              try clear hcz28_4
              try clear hcz28_5
              try clear hcz28_6
              try clear hcz29_0
              try clear hcz29_1
              try clear hcz29_2
              try clear hcz29_3
              try clear hcz29_4
              try clear hcz29_5
              try clear hcz29_6
              try clear hcz31_0
              try clear hcz31_1
              try clear hcz31_2
              try clear hcz31_3
              try clear hcz31_4
              try clear hcz31_5
              try clear hcz31_6
              try clear hcz32_0
              try clear hcz32_1
              try clear hcz32_2
              try clear hcz32_3
              try clear hcz32_4
              try clear hcz32_5
              try clear hcz32_6
              try clear hcz36_0
              try clear hcz36_1
              try clear hcz36_2
              try clear hcz36_3
              try clear hcz36_4
              try clear hcz36_5
              try clear hcz36_6
              try clear hcz37_0
              try clear hcz37_1
              try clear hcz37_2
              try clear hcz37_3
              try clear hcz37_4
              try clear hcz37_5
              try clear hcz37_6
              try clear hcz39_0
              try clear hcz39_1
              try clear hcz39_2
              try clear hcz39_3
              try clear hcz39_4
              try clear hcz39_5
              try clear hcz39_6
              try clear hcz40_0
              try clear hcz40_1
              try clear hcz40_2
              try clear hcz40_3
              try clear hcz40_4
              try clear hcz40_5
              try clear hcz40_6
              try clear hfz20_0
              try clear hfz20_1
              try clear hfz20_2
              try clear hfz20_3
              try clear hfz20_4
              try clear hfz20_5
              try clear hfz20_6
              try clear hfz22_0
              try clear hfz22_1
              try clear hfz22_2
              try clear hfz22_3
              try clear hfz22_4
              try clear hfz22_5
              try clear hfz22_6
              try clear hfz25_0
              try clear hfz25_1
              try clear hfz25_2
              try clear hfz25_3
              try clear hfz25_4
              try clear hfz25_5
              try clear hfz25_6
              try clear hfz28_0
              try clear hfz28_1
              try clear hfz28_2
              try clear hfz28_3
              try clear hfz28_4
              try clear hfz28_5
              try clear hfz28_6
              try clear hfz29_0
              try clear hfz29_1
              try clear hfz29_2
              try clear hfz29_3
              try clear hfz29_4
              try clear hfz29_5
              try clear hfz29_6
              try clear hfz31_0
              try clear hfz31_1
              try clear hfz31_2
              try clear hfz31_3
              try clear hfz31_4
              try clear hfz31_5
              try clear hfz31_6
              try clear hfz32_0
              try clear hfz32_1
              try clear hfz32_2
              try clear hfz32_3
              try clear hfz32_4
              try clear hfz32_5
              try clear hfz32_6
              try clear hfz36_0
              try clear hfz36_1
              try clear hfz36_2
              try clear hfz36_3
              try clear hfz36_4
              try clear hfz36_5
              try clear hfz36_6
              try clear hfz37_0
              try clear hfz37_1
              try clear hfz37_2
              try clear hfz37_3
              try clear hfz37_4
              try clear hfz37_5
              try clear hfz37_6
              try clear hfz39_0
              try clear hfz39_1
              try clear hfz39_2
              try clear hfz39_3
              try clear hfz39_4
              try clear hfz39_5
              try clear hfz39_6
              try clear hfz40_0
              try clear hfz40_1
              try clear hfz40_2
              try clear hfz40_3
              try clear hfz40_4
              try clear hfz40_5
              try clear hfz40_6
              try clear p2
              try clear p6
              obtain ⟨kq, x123003_32, HA, HJ32, HO_11, BK115, BK122, HB⟩ := hcut
              cases kq with
              | zero => exact absurd HA.out (by simp [marlinelaw10_HeadBack.j2])
              | succ kj32 =>
                have H := HA.out
                clear HA
                simp only [marlinelaw10_HeadBack.j2] at H
                obtain ⟨y123, hy123⟩ : ∃ y_ : List (S24), y_ = (([(⟨a0_0, a0_1, a0_2, a0_3, a0_4, a0_5, a0_6⟩ : S24), (⟨a0_0, a0_1, x123002_18, x123003_32, a0_4, a0_5, a0_6⟩ : S24)] : List (S24))) := ⟨_, rfl⟩
                replace H : (marlinelaw10_HeadBack.l0 kj32 a1 l2 t119 y123 (y123.length : Int) 0) = some r := by first | (rw [hy123]; with_reducible exact H) | (have H2_ := (Option.bind_some _ _).symm.trans H; rw [hy123]; with_reducible exact H2_) | (have H2_ := (Option.bind_some _ _).symm.trans H; with_reducible exact H2_) | with_reducible exact H | (rw [hy123]; exact H) | exact H
                have Ny123 := Aside0.mk hy123
                clear hy123
                have H' := Aside0.mk H
                clear H
                have hnb41 := NB115_122.out
                have hnc41 := NB122_115.out
                have hcz42_0 : wc.cell? ⟨gb115, 0, none⟩ = some (.bool a0_0) := (blk_cell BK115.out 0).trans rfl
                have hcz42_1 : wc.cell? ⟨gb115, 1, none⟩ = some (.bool a0_1) := (blk_cell BK115.out 1).trans rfl
                have hcz42_2 : wc.cell? ⟨gb115, 2, none⟩ = some (.bool a0_2) := (blk_cell BK115.out 2).trans rfl
                have hcz42_3 : wc.cell? ⟨gb115, 3, none⟩ = some (.bool a0_3) := (blk_cell BK115.out 3).trans rfl
                have hcz42_4 : wc.cell? ⟨gb115, 4, none⟩ = some (.int .u32 a0_4) := (blk_cell BK115.out 4).trans rfl
                have hcz42_5 : wc.cell? ⟨gb115, 5, none⟩ = some (.int .u32 a0_5) := (blk_cell BK115.out 5).trans rfl
                have hcz42_6 : wc.cell? ⟨gb115, 6, none⟩ = some (.int .i64 a0_6) := (blk_cell BK115.out 6).trans rfl
                have hfz42_0 := blk_frozen BK115.out 0
                have hfz42_1 := blk_frozen BK115.out 1
                have hfz42_2 := blk_frozen BK115.out 2
                have hfz42_3 := blk_frozen BK115.out 3
                have hfz42_4 := blk_frozen BK115.out 4
                have hfz42_5 := blk_frozen BK115.out 5
                have hfz42_6 := blk_frozen BK115.out 6
                have hcz43_0 : wc.cell? ⟨gb122, 0, none⟩ = some (.bool a0_0) := (blk_cell BK122.out 0).trans rfl
                have hcz43_1 : wc.cell? ⟨gb122, 1, none⟩ = some (.bool a0_1) := (blk_cell BK122.out 1).trans rfl
                have hcz43_2 : wc.cell? ⟨gb122, 2, none⟩ = some (.bool x123002_18) := (blk_cell BK122.out 2).trans rfl
                have hcz43_3 : wc.cell? ⟨gb122, 3, none⟩ = some (.bool x123003_32) := (blk_cell BK122.out 3).trans rfl
                have hcz43_4 : wc.cell? ⟨gb122, 4, none⟩ = some (.int .u32 a0_4) := (blk_cell BK122.out 4).trans rfl
                have hcz43_5 : wc.cell? ⟨gb122, 5, none⟩ = some (.int .u32 a0_5) := (blk_cell BK122.out 5).trans rfl
                have hcz43_6 : wc.cell? ⟨gb122, 6, none⟩ = some (.int .i64 a0_6) := (blk_cell BK122.out 6).trans rfl
                have hfz43_0 := blk_frozen BK122.out 0
                have hfz43_1 := blk_frozen BK122.out 1
                have hfz43_2 := blk_frozen BK122.out 2
                have hfz43_3 := blk_frozen BK122.out 3
                have hfz43_4 := blk_frozen BK122.out 4
                have hfz43_5 := blk_frozen BK122.out 5
                have hfz43_6 := blk_frozen BK122.out 6
                go_wp2_with (first | ((with_reducible refine gate_dst (N := 50) rfl ?_); (try (refine gate_guard (by rfl) ?_; dsimp only)); refine Kd.R_lit k24 _ 24 ?hg (N := 50) ?hd (xs := ([(⟨a0_0, a0_1, a0_2, a0_3, a0_4, a0_5, a0_6⟩ : S24), (⟨a0_0, a0_1, x123002_18, x123003_32, a0_4, a0_5, a0_6⟩ : S24)] : List (S24))) (inner := [.bool a0_0, .bool a0_1, .bool a0_2, .bool a0_3, .int .u32 a0_4, .int .u32 a0_5, .int .i64 a0_6, .bool a0_0, .bool a0_1, .bool x123002_18, .bool x123003_32, .int .u32 a0_4, .int .u32 a0_5, .int .i64 a0_6]) (ok := fun _ => True) (okp := fun _ => True) ?hr ?hp (fun _ hk => hk) trivial (Below.refl _ _) (Nat.le_refl _) (by simp) ?_; (case hd => rfl); (case hg => rfl); (case hr => first | (go_simp; done) | (go_simp; rfl)); (case hp => exact (Reps.c7 (show Kd.M k24 _ _ _ (⟨a0_0, a0_1, a0_2, a0_3, a0_4, a0_5, a0_6⟩ : S24) [.bool a0_0, .bool a0_1, .bool a0_2, .bool a0_3, .int .u32 a0_4, .int .u32 a0_5, .int .i64 a0_6] from (k24_mkM _ _ _ (⟨a0_0, a0_1, a0_2, a0_3, a0_4, a0_5, a0_6⟩ : S24) )) (Reps.c7 (show Kd.M k24 _ _ _ (⟨a0_0, a0_1, x123002_18, x123003_32, a0_4, a0_5, a0_6⟩ : S24) [.bool a0_0, .bool a0_1, .bool x123002_18, .bool x123003_32, .int .u32 a0_4, .int .u32 a0_5, .int .i64 a0_6] from (k24_mkM _ _ _ (⟨a0_0, a0_1, x123002_18, x123003_32, a0_4, a0_5, a0_6⟩ : S24) )) (Reps.none _ _)))); intro v124 w44 ho45 hb hg_ hnew_; clear hg_ hnew_; (first | rw [← Ny123.out] at ho45 | (simp only [Int.reduceToNat] at ho45; rw [← Ny123.out] at ho45)); have n0_ := Aside0.mk (Kd.Q_below (by (with_reducible repeat (first | apply Kd.Q_alloc | apply Kd.Q_drewN | apply Kd.Q_drew)); exact HO_11.out) hb); have n1_ := Aside0.mk (Kd.R_lower (Kd.R_newB (Kd.R_newB ho45 (g := gb115) (o := .cells #[.bool a0_0, .bool a0_1, .bool a0_2, .bool a0_3, .int .u32 a0_4, .int .u32 a0_5, .int .i64 a0_6] 24 (0, 0)) (by (with_reducible repeat (first | refine blk_drewN ?_ _ | refine blk_drew ?_ | refine blk_alloc ?_ _)); exact BK115.out)) (g := gb122) (o := .cells #[.bool a0_0, .bool a0_1, .bool x123002_18, .bool x123003_32, .int .u32 a0_4, .int .u32 a0_5, .int .i64 a0_6] 24 (0, 0)) (by (with_reducible repeat (first | refine blk_drewN ?_ _ | refine blk_drew ?_ | refine blk_alloc ?_ _)); exact BK122.out)) (below_size (by repeat (first | (with_reducible first | exact HB.out | apply below_alloc | apply pw_below_drewN | apply below_drew1 | refine below_set ?_ GE115.out | refine below_set ?_ GE122.out) | exact HB.out)))); have n2_ := Aside0.mk (blk_below (g := gb115) (o := .cells #[.bool a0_0, .bool a0_1, .bool a0_2, .bool a0_3, .int .u32 a0_4, .int .u32 a0_5, .int .i64 a0_6] 24 (0, 0)) (by (with_reducible repeat (first | refine blk_drewN ?_ _ | refine blk_drew ?_ | refine blk_alloc ?_ _)); exact BK115.out) hb); have n3_ := Aside0.mk (blk_below (g := gb122) (o := .cells #[.bool a0_0, .bool a0_1, .bool x123002_18, .bool x123003_32, .int .u32 a0_4, .int .u32 a0_5, .int .i64 a0_6] 24 (0, 0)) (by (with_reducible repeat (first | refine blk_drewN ?_ _ | refine blk_drew ?_ | refine blk_alloc ?_ _)); exact BK122.out) hb); have n4_ := Aside0.mk (below_step (by repeat (first | (with_reducible first | exact HB.out | apply below_alloc | apply pw_below_drewN | apply below_drew1 | refine below_set ?_ GE115.out | refine below_set ?_ GE122.out) | exact HB.out)) hb); clear HO_11; clear BK115; clear BK122; clear HB; have HO_11 := n0_; have HO125 := n1_; have BK115 := n2_; have BK122 := n3_; have HB := n4_; clear n0_ n1_ n2_ n3_ n4_; clear hb ho45; obtain ⟨Ao46, co46, eo46⟩ := Kd.R_slice HO125.out; subst eo46))
                go_loopg [52] kj32 (fun kq v52 w' => ∃ (x52_4 : Int), v52 = .int .i64 x52_4 ∧ Aside0 (marlinelaw10_HeadBack.l0 kq a1 l2 t119 y123 (y123.length : Int) x52_4 = some r) ∧ Aside0 (kq ≤ kj32) ∧ Aside0 (Kd.Q (Kd.int .u8) 5 w' w.heap.size (fun _ => True) v120 t119) ∧ Aside0 (Kd.R k24 24 w' w.heap.size (fun k_ => k_ ≠ gb115 ∧ k_ ≠ gb122) (.slice Ao46 y123.length co46) y123) ∧ Aside0 (w'.heap[gb115]? = some (.cells #[.bool a0_0, .bool a0_1, .bool a0_2, .bool a0_3, .int .u32 a0_4, .int .u32 a0_5, .int .i64 a0_6] 24 (0, 0))) ∧ Aside0 (w'.heap[gb122]? = some (.cells #[.bool a0_0, .bool a0_1, .bool x123002_18, .bool x123003_32, .int .u32 a0_4, .int .u32 a0_5, .int .i64 a0_6] 24 (0, 0))) ∧ Aside0 (Below w.heap.size w w'))
                case atStart => exact ⟨(0), (by first | rfl | (simp; done) | (simp [*]; done)), H', ⟨Nat.le_refl _⟩, ⟨by (with_reducible repeat (first | apply Kd.Q_alloc | apply Kd.Q_drewN | apply Kd.Q_drew)); exact HO_11.out⟩, ⟨by (with_reducible repeat (first | apply Kd.R_alloc | apply Kd.R_drewN | apply Kd.R_drew)); exact Kd.R_mono HO125.out (fun _ hk => ⟨hk.1.2, hk.2⟩)⟩, ⟨by (with_reducible repeat (first | refine blk_drewN ?_ _ | refine blk_drew ?_ | refine blk_alloc ?_ _)); exact BK115.out⟩, ⟨by (with_reducible repeat (first | refine blk_drewN ?_ _ | refine blk_drew ?_ | refine blk_alloc ?_ _)); exact BK122.out⟩, ⟨by repeat (first | (with_reducible first | exact HB.out | apply below_alloc | apply pw_below_drewN | apply below_drew1 | refine below_set ?_ GE115.out | refine below_set ?_ GE122.out) | exact HB.out)⟩⟩
                case round =>
                  clear H'
                  try clear c1
                  try clear c2
                  try clear p2
                  try clear c3
                  try clear c4
                  try clear p6
                  try clear c7
                  try clear c9
                  try clear c10
                  try clear c10b0
                  try clear c10b1
                  try clear c12
                  try clear c15
                  try clear c24
                  try clear c26
                  try clear c27
                  try clear c28
                  try clear c30
                  try clear c32
                  try clear c34
                  try clear c35
                  try clear c38
                  try clear c41
                  try clear hcz20_0
                  try clear hcz20_1
                  try clear hcz20_2
                  try clear hcz20_3
                  try clear hcz20_4
                  try clear hcz20_5
                  try clear hcz20_6
                  try clear hcz22_0
                  try clear hcz22_1
                  try clear hcz22_2
                  try clear hcz22_3
                  try clear hcz22_4
                  try clear hcz22_5
                  try clear hcz22_6
                  try clear hcz25_0
                  try clear hcz25_1
                  try clear hcz25_2
                  try clear hcz25_3
                  try clear hcz25_4
                  try clear hcz25_5
                  try clear hcz25_6
                  try clear hcz28_0
                  try clear hcz28_1
                  try clear hcz28_2
                  try clear hcz28_3
                  try clear hcz28_4
                  try clear hcz28_5
                  try clear hcz28_6
                  try clear hcz29_0
                  try clear hcz29_1
                  try clear hcz29_2
                  try clear hcz29_3
                  try clear hcz29_4
                  try clear hcz29_5
                  try clear hcz29_6
                  try clear hcz31_0
                  try clear hcz31_1
                  try clear hcz31_2
                  try clear hcz31_3
                  try clear hcz31_4
                  try clear hcz31_5
                  try clear hcz31_6
                  try clear hcz32_0
                  try clear hcz32_1
                  try clear hcz32_2
                  try clear hcz32_3
                  try clear hcz32_4
                  try clear hcz32_5
                  try clear hcz32_6
                  try clear hcz36_0
                  try clear hcz36_1
                  try clear hcz36_2
                  try clear hcz36_3
                  try clear hcz36_4
                  try clear hcz36_5
                  try clear hcz36_6
                  try clear hcz37_0
                  try clear hcz37_1
                  try clear hcz37_2
                  try clear hcz37_3
                  try clear hcz37_4
                  try clear hcz37_5
                  try clear hcz37_6
                  try clear hcz39_0
                  try clear hcz39_1
                  try clear hcz39_2
                  try clear hcz39_3
                  try clear hcz39_4
                  try clear hcz39_5
                  try clear hcz39_6
                  try clear hcz40_0
                  try clear hcz40_1
                  try clear hcz40_2
                  try clear hcz40_3
                  try clear hcz40_4
                  try clear hcz40_5
                  try clear hcz40_6
                  try clear hcz42_0
                  try clear hcz42_1
                  try clear hcz42_2
                  try clear hcz42_3
                  try clear hcz42_4
                  try clear hcz42_5
                  try clear hcz42_6
                  try clear hcz43_0
                  try clear hcz43_1
                  try clear hcz43_2
                  try clear hcz43_3
                  try clear hcz43_4
                  try clear hcz43_5
                  try clear hcz43_6
                  try clear hfz20_0
                  try clear hfz20_1
                  try clear hfz20_2
                  try clear hfz20_3
                  try clear hfz20_4
                  try clear hfz20_5
                  try clear hfz20_6
                  try clear hfz22_0
                  try clear hfz22_1
                  try clear hfz22_2
                  try clear hfz22_3
                  try clear hfz22_4
                  try clear hfz22_5
                  try clear hfz22_6
                  try clear hfz25_0
                  try clear hfz25_1
                  try clear hfz25_2
                  try clear hfz25_3
                  try clear hfz25_4
                  try clear hfz25_5
                  try clear hfz25_6
                  try clear hfz28_0
                  try clear hfz28_1
                  try clear hfz28_2
                  try clear hfz28_3
                  try clear hfz28_4
                  try clear hfz28_5
                  try clear hfz28_6
                  try clear hfz29_0
                  try clear hfz29_1
                  try clear hfz29_2
                  try clear hfz29_3
                  try clear hfz29_4
                  try clear hfz29_5
                  try clear hfz29_6
                  try clear hfz31_0
                  try clear hfz31_1
                  try clear hfz31_2
                  try clear hfz31_3
                  try clear hfz31_4
                  try clear hfz31_5
                  try clear hfz31_6
                  try clear hfz32_0
                  try clear hfz32_1
                  try clear hfz32_2
                  try clear hfz32_3
                  try clear hfz32_4
                  try clear hfz32_5
                  try clear hfz32_6
                  try clear hfz36_0
                  try clear hfz36_1
                  try clear hfz36_2
                  try clear hfz36_3
                  try clear hfz36_4
                  try clear hfz36_5
                  try clear hfz36_6
                  try clear hfz37_0
                  try clear hfz37_1
                  try clear hfz37_2
                  try clear hfz37_3
                  try clear hfz37_4
                  try clear hfz37_5
                  try clear hfz37_6
                  try clear hfz39_0
                  try clear hfz39_1
                  try clear hfz39_2
                  try clear hfz39_3
                  try clear hfz39_4
                  try clear hfz39_5
                  try clear hfz39_6
                  try clear hfz40_0
                  try clear hfz40_1
                  try clear hfz40_2
                  try clear hfz40_3
                  try clear hfz40_4
                  try clear hfz40_5
                  try clear hfz40_6
                  try clear hfz42_0
                  try clear hfz42_1
                  try clear hfz42_2
                  try clear hfz42_3
                  try clear hfz42_4
                  try clear hfz42_5
                  try clear hfz42_6
                  try clear hfz43_0
                  try clear hfz43_1
                  try clear hfz43_2
                  try clear hfz43_3
                  try clear hfz43_4
                  try clear hfz43_5
                  try clear hfz43_6
                  try clear p2
                  try clear p6
                  obtain ⟨x52_4, rfl, HA, HK4, HO_11, HO_50, BK115, BK122, HB⟩ := hrel
                  cases gk with
                  | zero => exact absurd HA.out (by simp [marlinelaw10_HeadBack.l0])
                  | succ k4 =>
                    have H := HA.out
                    clear HA
                    simp only [marlinelaw10_HeadBack.l0] at H
                    by_cases c47 : x52_4 < (y123.length : Int)
                    · rw [if_pos c47] at H
                      have c47b0 : decide (x52_4 < (y123.length : Int)) = true := decide_eq_true c47
                      clear c47
                      by_cases c48 : 0 ≤ x52_4
                      · rw [if_pos c48] at H
                        have c48b0 : decide (0 ≤ x52_4) = true := decide_eq_true c48
                        clear c48
                        by_cases c49 : x52_4 < (y123.length : Int)
                        · rw [if_pos c49] at H
                          have c49b0 : decide (x52_4 < (y123.length : Int)) = true := decide_eq_true c49
                          clear c49
                          obtain ⟨y128, hy128⟩ : ∃ y_ : List Int, y_ = (([] : List Int)) := ⟨_, rfl⟩
                          replace H : (if y128.length + t119.length < 140737488355328 then ((some (y128 ++ t119 : List Int)).bind fun y131 => (if y131.length + l2.length < 140737488355328 then ((head_Get.f k4 ((rd_T24 y123 x52_4).f0) ((rd_T24 y123 x52_4).f1) ((rd_T24 y123 x52_4).f2) ((rd_T24 y123 x52_4).f3) ((rd_T24 y123 x52_4).f4) ((rd_T24 y123 x52_4).f5) ((rd_T24 y123 x52_4).f6) (y131 ++ l2)).bind fun bt137 => (if bt137.2.2 = 0 then (if bt137.1 = a1 then (if bt137.2.1 = (t119.length : Int) then (marlinelaw10_HeadBack.l0 k4 a1 l2 t119 y123 (y123.length : Int) (wrap64 (x52_4 + 1))) else (some false)) else (some false)) else (some false))) else (none))) else (none)) = some r := by first | (rw [hy128]; with_reducible exact H) | (have H2_ := (Option.bind_some _ _).symm.trans H; rw [hy128]; with_reducible exact H2_) | (have H2_ := (Option.bind_some _ _).symm.trans H; with_reducible exact H2_) | with_reducible exact H | (rw [hy128]; exact H) | exact H
                          have Ny128 := Aside0.mk hy128
                          clear hy128
                          by_cases c50 : y128.length + t119.length < 140737488355328
                          · rw [if_pos c50] at H
                            have LMc50 := Aside0.mk c50
                            clear c50
                            obtain ⟨y131, hy131⟩ : ∃ y_ : List Int, y_ = (y128 ++ t119) := ⟨_, rfl⟩
                            replace H : (if y131.length + l2.length < 140737488355328 then ((head_Get.f k4 ((rd_T24 y123 x52_4).f0) ((rd_T24 y123 x52_4).f1) ((rd_T24 y123 x52_4).f2) ((rd_T24 y123 x52_4).f3) ((rd_T24 y123 x52_4).f4) ((rd_T24 y123 x52_4).f5) ((rd_T24 y123 x52_4).f6) (y131 ++ l2)).bind fun bt137 => (if bt137.2.2 = 0 then (if bt137.1 = a1 then (if bt137.2.1 = (t119.length : Int) then (marlinelaw10_HeadBack.l0 k4 a1 l2 t119 y123 (y123.length : Int) (wrap64 (x52_4 + 1))) else (some false)) else (some false)) else (some false))) else (none)) = some r := by first | (rw [hy131]; with_reducible exact H) | (have H2_ := (Option.bind_some _ _).symm.trans H; rw [hy131]; with_reducible exact H2_) | (have H2_ := (Option.bind_some _ _).symm.trans H; with_reducible exact H2_) | with_reducible exact H | (rw [hy131]; exact H) | exact H
                            have Ny131 := Aside0.mk hy131
                            clear hy131
                            by_cases c51 : y131.length + l2.length < 140737488355328
                            · rw [if_pos c51] at H
                              have LMc51 := Aside0.mk c51
                              clear c51
                              obtain ⟨y134, hy134⟩ : ∃ y_ : List Int, y_ = (y131 ++ l2) := ⟨_, rfl⟩
                              replace H : ((head_Get.f k4 ((rd_T24 y123 x52_4).f0) ((rd_T24 y123 x52_4).f1) ((rd_T24 y123 x52_4).f2) ((rd_T24 y123 x52_4).f3) ((rd_T24 y123 x52_4).f4) ((rd_T24 y123 x52_4).f5) ((rd_T24 y123 x52_4).f6) y134).bind fun bt137 => (if bt137.2.2 = 0 then (if bt137.1 = a1 then (if bt137.2.1 = (t119.length : Int) then (marlinelaw10_HeadBack.l0 k4 a1 l2 t119 y123 (y123.length : Int) (wrap64 (x52_4 + 1))) else (some false)) else (some false)) else (some false))) = some r := by first | (rw [hy134]; with_reducible exact H) | (have H2_ := (Option.bind_some _ _).symm.trans H; rw [hy134]; with_reducible exact H2_) | (have H2_ := (Option.bind_some _ _).symm.trans H; with_reducible exact H2_) | with_reducible exact H | (rw [hy134]; exact H) | exact H
                              have Ny134 := Aside0.mk hy134
                              clear hy134
                              replace H := Option.bind_eq_some_iff.mp H
                              obtain ⟨⟨t137, t138, t139⟩, A520, H⟩ := H
                              replace H : (if t139 = 0 then (if t137 = a1 then (if t138 = (t119.length : Int) then (marlinelaw10_HeadBack.l0 k4 a1 l2 t119 y123 (y123.length : Int) (wrap64 (x52_4 + 1))) else (some false)) else (some false)) else (some false)) = some r := H
                              have A52 := Aside0.mk A520
                              clear A520
                              by_cases c53 : t139 = 0
                              · rw [if_pos c53] at H
                                have c53b0 : (t139 == 0) = true := beq_iff_eq.mpr c53
                                have c53b1 : (t139 != 0) = false := bne_eq_false_iff_eq.mpr c53
                                clear c53
                                by_cases c54 : t137 = a1
                                · rw [if_pos c54] at H
                                  have c54b0 : (t137 == a1) = true := beq_iff_eq.mpr c54
                                  have c54b1 : (t137 != a1) = false := bne_eq_false_iff_eq.mpr c54
                                  clear c54
                                  by_cases c55 : t138 = (t119.length : Int)
                                  · rw [if_pos c55] at H
                                    have c55b0 : (t138 == (t119.length : Int)) = true := beq_iff_eq.mpr c55
                                    have c55b1 : (t138 != (t119.length : Int)) = false := bne_eq_false_iff_eq.mpr c55
                                    clear c55
                                    have H' := Aside0.mk H
                                    clear H
                                    have p126 : 0 ≤ (x52_4 : Int) := of_decide_eq_true (by first | (with_reducible assumption) | assumption)
                                    have q126 : x52_4 < (y123.length : Int) := of_decide_eq_true (by first | (with_reducible assumption) | assumption)
                                    obtain ⟨ad126, e126, hx126_0, hx126_1, hx126_2, hx126_3, hx126_4, hx126_5, hx126_6⟩ := at_T24 (Kd.R_reads' HO_50.out).2.2 x52_4 p126 q126
                                    cases e126
                                    replace p126 := eq_true p126
                                    replace q126 := eq_true q126
                                    try go_wp2_with (first | ((with_reducible refine gate_dst (N := 14) rfl ?_); (try (refine gate_guard (by rfl) ?_; dsimp only)); refine box_event ?hg (N := 14) ?hd (cs := #[.bool false, .bool false, .bool false, .bool false, .int .u32 0, .int .u32 0, .int .i64 0]) (t := 24) ?hr ?_; (case hd => rfl); (case hg => rfl); (case hr => first | (go_simp; done) | (go_simp; rfl)); intro gb127 hg w56 hbox hb; have n0_ := Aside0.mk (Kd.Q_below (by (with_reducible repeat (first | apply Kd.Q_alloc | apply Kd.Q_drewN | apply Kd.Q_drew)); exact HO_11.out) hb); have n1_ := Aside0.mk (Kd.R_below (Kd.R_elderB (by (with_reducible repeat (first | apply Kd.R_alloc | apply Kd.R_drewN | apply Kd.R_drew)); exact HO_50.out) gb127 (Nat.le_of_eq hg.symm)) hb); have n2_ := Aside0.mk (blk_below (g := gb115) (o := .cells #[.bool a0_0, .bool a0_1, .bool a0_2, .bool a0_3, .int .u32 a0_4, .int .u32 a0_5, .int .i64 a0_6] 24 (0, 0)) (by (with_reducible repeat (first | refine blk_drewN ?_ _ | refine blk_drew ?_ | refine blk_alloc ?_ _)); exact BK115.out) hb); have n3_ := Aside0.mk (blk_below (g := gb122) (o := .cells #[.bool a0_0, .bool a0_1, .bool x123002_18, .bool x123003_32, .int .u32 a0_4, .int .u32 a0_5, .int .i64 a0_6] 24 (0, 0)) (by (with_reducible repeat (first | refine blk_drewN ?_ _ | refine blk_drew ?_ | refine blk_alloc ?_ _)); exact BK122.out) hb); have n4_ := Aside0.mk (below_step (by repeat (first | (with_reducible first | exact HB.out | apply below_alloc | apply pw_below_drewN | apply below_drew1 | refine below_set ?_ GE115.out | refine below_set ?_ GE122.out) | exact HB.out)) hb); have n5_ := Aside0.mk (hbox); have n6_ := Aside0.mk ((by rw [hg]; exact (below_size (by repeat (first | (with_reducible first | exact HB.out | apply below_alloc | apply pw_below_drewN | apply below_drew1 | refine below_set ?_ GE115.out | refine below_set ?_ GE122.out) | exact HB.out))) : w.heap.size ≤ gb127)); have n7_ := Aside0.mk ((by rw [hg]; exact (below_size (by repeat (first | (with_reducible first | exact HB.out | apply below_alloc | apply pw_below_drewN | apply below_drew1 | refine below_set ?_ GE115.out | refine below_set ?_ GE122.out) | exact HB.out))) : w.heap.size ≤ gb127)); have n8_ := Aside0.mk ((by rw [hg]; exact Nat.ne_of_lt (blk_lt (g := gb115) (o := .cells #[.bool a0_0, .bool a0_1, .bool a0_2, .bool a0_3, .int .u32 a0_4, .int .u32 a0_5, .int .i64 a0_6] 24 (0, 0)) (by (with_reducible repeat (first | refine blk_drewN ?_ _ | refine blk_drew ?_ | refine blk_alloc ?_ _)); exact BK115.out)) : gb115 ≠ gb127)); have n9_ := Aside0.mk ((by rw [hg]; exact Nat.ne_of_gt (blk_lt (g := gb115) (o := .cells #[.bool a0_0, .bool a0_1, .bool a0_2, .bool a0_3, .int .u32 a0_4, .int .u32 a0_5, .int .i64 a0_6] 24 (0, 0)) (by (with_reducible repeat (first | refine blk_drewN ?_ _ | refine blk_drew ?_ | refine blk_alloc ?_ _)); exact BK115.out)) : gb127 ≠ gb115)); have n10_ := Aside0.mk ((by rw [hg]; exact Nat.ne_of_lt (blk_lt (g := gb122) (o := .cells #[.bool a0_0, .bool a0_1, .bool x123002_18, .bool x123003_32, .int .u32 a0_4, .int .u32 a0_5, .int .i64 a0_6] 24 (0, 0)) (by (with_reducible repeat (first | refine blk_drewN ?_ _ | refine blk_drew ?_ | refine blk_alloc ?_ _)); exact BK122.out)) : gb122 ≠ gb127)); have n11_ := Aside0.mk ((by rw [hg]; exact Nat.ne_of_gt (blk_lt (g := gb122) (o := .cells #[.bool a0_0, .bool a0_1, .bool x123002_18, .bool x123003_32, .int .u32 a0_4, .int .u32 a0_5, .int .i64 a0_6] 24 (0, 0)) (by (with_reducible repeat (first | refine blk_drewN ?_ _ | refine blk_drew ?_ | refine blk_alloc ?_ _)); exact BK122.out)) : gb127 ≠ gb122)); clear HO_11; clear HO_50; clear BK115; clear BK122; clear HB; have HO_11 := n0_; have HO_50 := n1_; have BK115 := n2_; have BK122 := n3_; have HB := n4_; have BK127 := n5_; have GW127 := n6_; have GE127 := n7_; have NB115_127 := n8_; have NB127_115 := n9_; have NB122_127 := n10_; have NB127_122 := n11_; clear n0_ n1_ n2_ n3_ n4_ n5_ n6_ n7_ n8_ n9_ n10_ n11_; clear hb hbox hg; have hnb57 := NB127_115.out; have hnc57 := NB115_127.out; have hnb58 := NB127_122.out; have hnc58 := NB122_127.out; have hcz59_0 : w56.cell? ⟨gb127, 0, none⟩ = some (.bool false) := (blk_cell BK127.out 0).trans rfl; have hcz59_1 : w56.cell? ⟨gb127, 1, none⟩ = some (.bool false) := (blk_cell BK127.out 1).trans rfl; have hcz59_2 : w56.cell? ⟨gb127, 2, none⟩ = some (.bool false) := (blk_cell BK127.out 2).trans rfl; have hcz59_3 : w56.cell? ⟨gb127, 3, none⟩ = some (.bool false) := (blk_cell BK127.out 3).trans rfl; have hcz59_4 : w56.cell? ⟨gb127, 4, none⟩ = some (.int .u32 0) := (blk_cell BK127.out 4).trans rfl; have hcz59_5 : w56.cell? ⟨gb127, 5, none⟩ = some (.int .u32 0) := (blk_cell BK127.out 5).trans rfl; have hcz59_6 : w56.cell? ⟨gb127, 6, none⟩ = some (.int .i64 0) := (blk_cell BK127.out 6).trans rfl; have hfz59_0 := blk_frozen BK127.out 0; have hfz59_1 := blk_frozen BK127.out 1; have hfz59_2 := blk_frozen BK127.out 2; have hfz59_3 := blk_frozen BK127.out 3; have hfz59_4 := blk_frozen BK127.out 4; have hfz59_5 := blk_frozen BK127.out 5; have hfz59_6 := blk_frozen BK127.out 6))
                                    have n0_ : Aside0 (Kd.Q (Kd.int .u8) 5 (((((((w56.setCell ⟨gb127, 0, none⟩ (.bool ((rd_T24 y123 x52_4).f0))).setCell ⟨gb127, 1, none⟩ (.bool ((rd_T24 y123 x52_4).f1))).setCell ⟨gb127, 2, none⟩ (.bool ((rd_T24 y123 x52_4).f2))).setCell ⟨gb127, 3, none⟩ (.bool ((rd_T24 y123 x52_4).f3))).setCell ⟨gb127, 4, none⟩ (.int .u32 ((rd_T24 y123 x52_4).f4))).setCell ⟨gb127, 5, none⟩ (.int .u32 ((rd_T24 y123 x52_4).f5))).setCell ⟨gb127, 6, none⟩ (.int .i64 ((rd_T24 y123 x52_4).f6))) w.heap.size (fun _ => True) v120 t119) := ⟨by (with_reducible repeat (first | apply Kd.Q_alloc | apply Kd.Q_drewN | apply Kd.Q_drew)); exact Kd.Q_mono (Kd.Q_far (p := ⟨gb127, 6, none⟩) (Kd.Q_far (p := ⟨gb127, 5, none⟩) (Kd.Q_far (p := ⟨gb127, 4, none⟩) (Kd.Q_far (p := ⟨gb127, 3, none⟩) (Kd.Q_far (p := ⟨gb127, 2, none⟩) (Kd.Q_far (p := ⟨gb127, 1, none⟩) (Kd.Q_far (p := ⟨gb127, 0, none⟩) (Kd.Q_types HO_11.out BK127.out (by decide)) (fun _ hk => hk.2) (.bool ((rd_T24 y123 x52_4).f0))) (fun _ hk => hk.2) (.bool ((rd_T24 y123 x52_4).f1))) (fun _ hk => hk.2) (.bool ((rd_T24 y123 x52_4).f2))) (fun _ hk => hk.2) (.bool ((rd_T24 y123 x52_4).f3))) (fun _ hk => hk.2) (.int .u32 ((rd_T24 y123 x52_4).f4))) (fun _ hk => hk.2) (.int .u32 ((rd_T24 y123 x52_4).f5))) (fun _ hk => hk.2) (.int .i64 ((rd_T24 y123 x52_4).f6))) (fun _ hk => trivial)⟩
                                    have n1_ : Aside0 (Kd.R k24 24 (((((((w56.setCell ⟨gb127, 0, none⟩ (.bool ((rd_T24 y123 x52_4).f0))).setCell ⟨gb127, 1, none⟩ (.bool ((rd_T24 y123 x52_4).f1))).setCell ⟨gb127, 2, none⟩ (.bool ((rd_T24 y123 x52_4).f2))).setCell ⟨gb127, 3, none⟩ (.bool ((rd_T24 y123 x52_4).f3))).setCell ⟨gb127, 4, none⟩ (.int .u32 ((rd_T24 y123 x52_4).f4))).setCell ⟨gb127, 5, none⟩ (.int .u32 ((rd_T24 y123 x52_4).f5))).setCell ⟨gb127, 6, none⟩ (.int .i64 ((rd_T24 y123 x52_4).f6))) w.heap.size (fun k_ => k_ ≠ gb115 ∧ k_ ≠ gb122 ∧ k_ ≠ gb127) (.slice (some ad126) y123.length co46) y123) := ⟨by (with_reducible repeat (first | apply Kd.R_alloc | apply Kd.R_drewN | apply Kd.R_drew)); exact Kd.R_mono (Kd.R_far (p := ⟨gb127, 6, none⟩) (Kd.R_far (p := ⟨gb127, 5, none⟩) (Kd.R_far (p := ⟨gb127, 4, none⟩) (Kd.R_far (p := ⟨gb127, 3, none⟩) (Kd.R_far (p := ⟨gb127, 2, none⟩) (Kd.R_far (p := ⟨gb127, 1, none⟩) (Kd.R_far (p := ⟨gb127, 0, none⟩) (Kd.R_mono HO_50.out (fun k_ hk => (⟨hk, hk.2⟩ : _ ∧ k_ ≠ gb127))) (fun _ hk => hk.2) (.bool ((rd_T24 y123 x52_4).f0))) (fun _ hk => hk.2) (.bool ((rd_T24 y123 x52_4).f1))) (fun _ hk => hk.2) (.bool ((rd_T24 y123 x52_4).f2))) (fun _ hk => hk.2) (.bool ((rd_T24 y123 x52_4).f3))) (fun _ hk => hk.2) (.int .u32 ((rd_T24 y123 x52_4).f4))) (fun _ hk => hk.2) (.int .u32 ((rd_T24 y123 x52_4).f5))) (fun _ hk => hk.2) (.int .i64 ((rd_T24 y123 x52_4).f6))) (fun _ hk => ⟨hk.1.1.1, ⟨hk.1.1.2, hk.1.2⟩⟩)⟩
                                    have n2_ : Aside0 ((((((((w56.setCell ⟨gb127, 0, none⟩ (.bool ((rd_T24 y123 x52_4).f0))).setCell ⟨gb127, 1, none⟩ (.bool ((rd_T24 y123 x52_4).f1))).setCell ⟨gb127, 2, none⟩ (.bool ((rd_T24 y123 x52_4).f2))).setCell ⟨gb127, 3, none⟩ (.bool ((rd_T24 y123 x52_4).f3))).setCell ⟨gb127, 4, none⟩ (.int .u32 ((rd_T24 y123 x52_4).f4))).setCell ⟨gb127, 5, none⟩ (.int .u32 ((rd_T24 y123 x52_4).f5))).setCell ⟨gb127, 6, none⟩ (.int .i64 ((rd_T24 y123 x52_4).f6))).heap[gb115]? = some (.cells #[.bool a0_0, .bool a0_1, .bool a0_2, .bool a0_3, .int .u32 a0_4, .int .u32 a0_5, .int .i64 a0_6] 24 (0, 0))) := ⟨by (with_reducible repeat (first | refine blk_drewN ?_ _ | refine blk_drew ?_ | refine blk_alloc ?_ _)); refine blk_far ?_ NB115_127.out _; (with_reducible repeat (first | refine blk_drewN ?_ _ | refine blk_drew ?_ | refine blk_alloc ?_ _)); refine blk_far ?_ NB115_127.out _; (with_reducible repeat (first | refine blk_drewN ?_ _ | refine blk_drew ?_ | refine blk_alloc ?_ _)); refine blk_far ?_ NB115_127.out _; (with_reducible repeat (first | refine blk_drewN ?_ _ | refine blk_drew ?_ | refine blk_alloc ?_ _)); refine blk_far ?_ NB115_127.out _; (with_reducible repeat (first | refine blk_drewN ?_ _ | refine blk_drew ?_ | refine blk_alloc ?_ _)); refine blk_far ?_ NB115_127.out _; (with_reducible repeat (first | refine blk_drewN ?_ _ | refine blk_drew ?_ | refine blk_alloc ?_ _)); refine blk_far ?_ NB115_127.out _; (with_reducible repeat (first | refine blk_drewN ?_ _ | refine blk_drew ?_ | refine blk_alloc ?_ _)); refine blk_far ?_ NB115_127.out _; (with_reducible repeat (first | refine blk_drewN ?_ _ | refine blk_drew ?_ | refine blk_alloc ?_ _)); exact BK115.out⟩
                                    have n3_ : Aside0 ((((((((w56.setCell ⟨gb127, 0, none⟩ (.bool ((rd_T24 y123 x52_4).f0))).setCell ⟨gb127, 1, none⟩ (.bool ((rd_T24 y123 x52_4).f1))).setCell ⟨gb127, 2, none⟩ (.bool ((rd_T24 y123 x52_4).f2))).setCell ⟨gb127, 3, none⟩ (.bool ((rd_T24 y123 x52_4).f3))).setCell ⟨gb127, 4, none⟩ (.int .u32 ((rd_T24 y123 x52_4).f4))).setCell ⟨gb127, 5, none⟩ (.int .u32 ((rd_T24 y123 x52_4).f5))).setCell ⟨gb127, 6, none⟩ (.int .i64 ((rd_T24 y123 x52_4).f6))).heap[gb122]? = some (.cells #[.bool a0_0, .bool a0_1, .bool x123002_18, .bool x123003_32, .int .u32 a0_4, .int .u32 a0_5, .int .i64 a0_6] 24 (0, 0))) := ⟨by (with_reducible repeat (first | refine blk_drewN ?_ _ | refine blk_drew ?_ | refine blk_alloc ?_ _)); refine blk_far ?_ NB122_127.out _; (with_reducible repeat (first | refine blk_drewN ?_ _ | refine blk_drew ?_ | refine blk_alloc ?_ _)); refine blk_far ?_ NB122_127.out _; (with_reducible repeat (first | refine blk_drewN ?_ _ | refine blk_drew ?_ | refine blk_alloc ?_ _)); refine blk_far ?_ NB122_127.out _; (with_reducible repeat (first | refine blk_drewN ?_ _ | refine blk_drew ?_ | refine blk_alloc ?_ _)); refine blk_far ?_ NB122_127.out _; (with_reducible repeat (first | refine blk_drewN ?_ _ | refine blk_drew ?_ | refine blk_alloc ?_ _)); refine blk_far ?_ NB122_127.out _; (with_reducible repeat (first | refine blk_drewN ?_ _ | refine blk_drew ?_ | refine blk_alloc ?_ _)); refine blk_far ?_ NB122_127.out _; (with_reducible repeat (first | refine blk_drewN ?_ _ | refine blk_drew ?_ | refine blk_alloc ?_ _)); refine blk_far ?_ NB122_127.out _; (with_reducible repeat (first | refine blk_drewN ?_ _ | refine blk_drew ?_ | refine blk_alloc ?_ _)); exact BK122.out⟩
                                    have n4_ : Aside0 ((((((((w56.setCell ⟨gb127, 0, none⟩ (.bool ((rd_T24 y123 x52_4).f0))).setCell ⟨gb127, 1, none⟩ (.bool ((rd_T24 y123 x52_4).f1))).setCell ⟨gb127, 2, none⟩ (.bool ((rd_T24 y123 x52_4).f2))).setCell ⟨gb127, 3, none⟩ (.bool ((rd_T24 y123 x52_4).f3))).setCell ⟨gb127, 4, none⟩ (.int .u32 ((rd_T24 y123 x52_4).f4))).setCell ⟨gb127, 5, none⟩ (.int .u32 ((rd_T24 y123 x52_4).f5))).setCell ⟨gb127, 6, none⟩ (.int .i64 ((rd_T24 y123 x52_4).f6))).heap[gb127]? = some (.cells #[.bool ((rd_T24 y123 x52_4).f0), .bool ((rd_T24 y123 x52_4).f1), .bool ((rd_T24 y123 x52_4).f2), .bool ((rd_T24 y123 x52_4).f3), .int .u32 ((rd_T24 y123 x52_4).f4), .int .u32 ((rd_T24 y123 x52_4).f5), .int .i64 ((rd_T24 y123 x52_4).f6)] 24 (0, 0))) := ⟨by (with_reducible repeat (first | refine blk_drewN ?_ _ | refine blk_drew ?_ | refine blk_alloc ?_ _)); refine blk_put (cs := #[.bool ((rd_T24 y123 x52_4).f0), .bool ((rd_T24 y123 x52_4).f1), .bool ((rd_T24 y123 x52_4).f2), .bool ((rd_T24 y123 x52_4).f3), .int .u32 ((rd_T24 y123 x52_4).f4), .int .u32 ((rd_T24 y123 x52_4).f5), .int .i64 0]) ?_ 6 _ rfl; (with_reducible repeat (first | refine blk_drewN ?_ _ | refine blk_drew ?_ | refine blk_alloc ?_ _)); refine blk_put (cs := #[.bool ((rd_T24 y123 x52_4).f0), .bool ((rd_T24 y123 x52_4).f1), .bool ((rd_T24 y123 x52_4).f2), .bool ((rd_T24 y123 x52_4).f3), .int .u32 ((rd_T24 y123 x52_4).f4), .int .u32 0, .int .i64 0]) ?_ 5 _ rfl; (with_reducible repeat (first | refine blk_drewN ?_ _ | refine blk_drew ?_ | refine blk_alloc ?_ _)); refine blk_put (cs := #[.bool ((rd_T24 y123 x52_4).f0), .bool ((rd_T24 y123 x52_4).f1), .bool ((rd_T24 y123 x52_4).f2), .bool ((rd_T24 y123 x52_4).f3), .int .u32 0, .int .u32 0, .int .i64 0]) ?_ 4 _ rfl; (with_reducible repeat (first | refine blk_drewN ?_ _ | refine blk_drew ?_ | refine blk_alloc ?_ _)); refine blk_put (cs := #[.bool ((rd_T24 y123 x52_4).f0), .bool ((rd_T24 y123 x52_4).f1), .bool ((rd_T24 y123 x52_4).f2), .bool false, .int .u32 0, .int .u32 0, .int .i64 0]) ?_ 3 _ rfl; (with_reducible repeat (first | refine blk_drewN ?_ _ | refine blk_drew ?_ | refine blk_alloc ?_ _)); refine blk_put (cs := #[.bool ((rd_T24 y123 x52_4).f0), .bool ((rd_T24 y123 x52_4).f1), .bool false, .bool false, .int .u32 0, .int .u32 0, .int .i64 0]) ?_ 2 _ rfl; (with_reducible repeat (first | refine blk_drewN ?_ _ | refine blk_drew ?_ | refine blk_alloc ?_ _)); refine blk_put (cs := #[.bool ((rd_T24 y123 x52_4).f0), .bool false, .bool false, .bool false, .int .u32 0, .int .u32 0, .int .i64 0]) ?_ 1 _ rfl; (with_reducible repeat (first | refine blk_drewN ?_ _ | refine blk_drew ?_ | refine blk_alloc ?_ _)); refine blk_put (cs := #[.bool false, .bool false, .bool false, .bool false, .int .u32 0, .int .u32 0, .int .i64 0]) ?_ 0 _ rfl; (with_reducible repeat (first | refine blk_drewN ?_ _ | refine blk_drew ?_ | refine blk_alloc ?_ _)); exact BK127.out⟩
                                    have n5_ : Aside0 (Below w.heap.size w (((((((w56.setCell ⟨gb127, 0, none⟩ (.bool ((rd_T24 y123 x52_4).f0))).setCell ⟨gb127, 1, none⟩ (.bool ((rd_T24 y123 x52_4).f1))).setCell ⟨gb127, 2, none⟩ (.bool ((rd_T24 y123 x52_4).f2))).setCell ⟨gb127, 3, none⟩ (.bool ((rd_T24 y123 x52_4).f3))).setCell ⟨gb127, 4, none⟩ (.int .u32 ((rd_T24 y123 x52_4).f4))).setCell ⟨gb127, 5, none⟩ (.int .u32 ((rd_T24 y123 x52_4).f5))).setCell ⟨gb127, 6, none⟩ (.int .i64 ((rd_T24 y123 x52_4).f6)))) := ⟨by repeat (first | (with_reducible first | exact HB.out | apply below_alloc | apply pw_below_drewN | apply below_drew1 | refine below_set ?_ GE115.out | refine below_set ?_ GE122.out | refine below_set ?_ GE127.out) | exact HB.out)⟩
                                    (try clear HO_11)
                                    (try clear HO_50)
                                    (try clear BK115)
                                    (try clear BK122)
                                    (try clear BK127)
                                    (try clear HB)
                                    generalize (((((((w56.setCell ⟨gb127, 0, none⟩ (.bool ((rd_T24 y123 x52_4).f0))).setCell ⟨gb127, 1, none⟩ (.bool ((rd_T24 y123 x52_4).f1))).setCell ⟨gb127, 2, none⟩ (.bool ((rd_T24 y123 x52_4).f2))).setCell ⟨gb127, 3, none⟩ (.bool ((rd_T24 y123 x52_4).f3))).setCell ⟨gb127, 4, none⟩ (.int .u32 ((rd_T24 y123 x52_4).f4))).setCell ⟨gb127, 5, none⟩ (.int .u32 ((rd_T24 y123 x52_4).f5))).setCell ⟨gb127, 6, none⟩ (.int .i64 ((rd_T24 y123 x52_4).f6))) = w60 at n0_ n1_ n2_ n3_ n4_ n5_ ⊢
                                    have HO_11 := n0_
                                    have HO_50 := n1_
                                    have BK115 := n2_
                                    have BK122 := n3_
                                    have BK127 := n4_
                                    have HB := n5_
                                    clear n0_ n1_ n2_ n3_ n4_ n5_
                                    have n0_ := Aside0.mk (Kd.Q_drew HO_11.out)
                                    have n1_ := Aside0.mk (Kd.R_drew HO_50.out)
                                    have n2_ := Aside0.mk (blk_drew BK115.out)
                                    have n3_ := Aside0.mk (blk_drew BK122.out)
                                    have n4_ := Aside0.mk (blk_drew BK127.out)
                                    have n5_ := Aside0.mk (below_drew1 HB.out)
                                    clear HO_11
                                    clear HO_50
                                    clear BK115
                                    clear BK122
                                    clear BK127
                                    clear HB
                                    have HO_11 := n0_
                                    have HO_50 := n1_
                                    have BK115 := n2_
                                    have BK122 := n3_
                                    have BK127 := n4_
                                    have HB := n5_
                                    clear n0_ n1_ n2_ n3_ n4_ n5_
                                    refine start_ (n := 14) (S := fun w' => w'.cell? ⟨gb127, 0, none⟩ = some (.bool ((rd_T24 y123 x52_4).f0)) ∧ w'.cell? ⟨gb127, 1, none⟩ = some (.bool ((rd_T24 y123 x52_4).f1)) ∧ w'.cell? ⟨gb127, 2, none⟩ = some (.bool ((rd_T24 y123 x52_4).f2)) ∧ w'.cell? ⟨gb127, 3, none⟩ = some (.bool ((rd_T24 y123 x52_4).f3)) ∧ w'.cell? ⟨gb127, 4, none⟩ = some (.int .u32 ((rd_T24 y123 x52_4).f4)) ∧ w'.cell? ⟨gb127, 5, none⟩ = some (.int .u32 ((rd_T24 y123 x52_4).f5)) ∧ w'.cell? ⟨gb127, 6, none⟩ = some (.int .i64 ((rd_T24 y123 x52_4).f6))) (ds := []) #[false, false, false, false, false, false, false, false, false, false, false, false, false, false] (by kernel_rfl) rfl rfl ⟨(blk_cell BK127.out 0).trans rfl, (blk_cell BK127.out 1).trans rfl, (blk_cell BK127.out 2).trans rfl, (blk_cell BK127.out 3).trans rfl, (blk_cell BK127.out 4).trans rfl, (blk_cell BK127.out 5).trans rfl, (blk_cell BK127.out 6).trans rfl⟩ (fun hHeld => ?_); refine with_tabW marlinelaw10_HeadBack.tab10 marlinelaw10_HeadBack.bits10 (fun HT_ HW_ => ?_)
                                    generalize w60.drew = w61 at HO_11 HO_50 BK115 BK122 BK127 HB hHeld ⊢
                                    refine pure_ (i := 2) (N := some 59) (v := ?_) (a' := ?_) #[false, false, true, false, false, false, false, false, false, false, false, false, false, false] rfl rfl (any_of HT_.out (by kernel_rfl)) (fun _ _ _ h => h) (Or.inl ⟨by rfl, ?_⟩) ?_ ?_
                                    rotate_left
                                    · intro w'
                                      go_simp
                                      with_reducible rfl
                                    rotate_left
                                    · simp only [Act.put, List.setIfInBounds_toArray, List.set_cons_zero, List.set_cons_succ, i64_w, i32_w]
                                      rfl
                                    refine pure_ (i := 4) (N := some 61) (v := ?_) (a' := ?_) #[false, false, true, false, true, false, false, false, false, false, false, false, false, false] rfl rfl (any_of HT_.out (by kernel_rfl)) (fun _ _ _ h => h) (Or.inl ⟨by rfl, ?_⟩) ?_ ?_
                                    rotate_left
                                    · intro w'
                                      go_simp
                                      with_reducible rfl
                                    rotate_left
                                    · simp only [Act.put, List.setIfInBounds_toArray, List.set_cons_zero, List.set_cons_succ, i64_w, i32_w]
                                      rfl
                                    refine take_ (i := 0) (N := some 57) (v := ?_) (a' := ?_) #[true, false, true, false, true, false, false, false, false, false, false, false, false, false] rfl rfl (take_ofW HT_.out HW_.out (by kernel_rfl)) (fun _ _ _ h => h) (Or.inl ⟨by rfl, ?_⟩) hHeld ?_ ?_
                                    rotate_left
                                    · rintro w' ⟨s0, s1, s2, s3, s4, s5, s6⟩
                                      go_simp
                                      with_reducible rfl
                                    rotate_left
                                    · simp only [Act.put, List.setIfInBounds_toArray, List.set_cons_zero, List.set_cons_succ, i64_w, i32_w]
                                      rfl
                                    refine one_ (i := 1) (N := some 58) #[true, true, true, false, true, false, false, false, false, false, false, false, false, false] rfl rfl (one_of HT_.out (by kernel_rfl)) (by decide) (fun K hK => ?_)
                                    refine Kd.R_lit_step (Kd.int .u8) _ 5 ?hg (N := 58) ?hd (xs := ([] : List Int)) (inner := []) (ok := fun _ => True) (okp := fun _ => True) ?hr ?hp (fun _ hk => hk) trivial (Below.refl _ _) (Nat.le_refl _) (by simp) ?_; (case hd => rfl); (case hg => rfl); (case hr => first | (go_simp; done) | (go_simp; rfl)); (case hp => exact (Reps.none _ _))
                                    intro v129 w62 ho63 hb hg_ hnew_
                                    clear hg_ hnew_
                                    (first | rw [← Ny128.out] at ho63 | (simp only [Int.reduceToNat] at ho63; rw [← Ny128.out] at ho63))
                                    have n0_ := Aside0.mk (Kd.Q_elder' (by (with_reducible repeat (first | apply Kd.Q_alloc | apply Kd.Q_drewN | apply Kd.Q_drew)); exact HO_11.out) (Kd.R_base ho63) hb)
                                    have n1_ := Aside0.mk (Kd.R_below (by (with_reducible repeat (first | apply Kd.R_alloc | apply Kd.R_drewN | apply Kd.R_drew)); exact HO_50.out) hb)
                                    have n2_ := Aside0.mk (Kd.R_lower (Kd.R_new' ho63 (Kd.Q_lt (by (with_reducible repeat (first | apply Kd.Q_alloc | apply Kd.Q_drewN | apply Kd.Q_drew)); exact HO_11.out))) (below_size (by repeat (first | (with_reducible first | exact HB.out | apply below_alloc | apply pw_below_drewN | apply below_drew1 | refine below_set ?_ GE115.out | refine below_set ?_ GE122.out | refine below_set ?_ GE127.out) | exact HB.out))))
                                    have n3_ := Aside0.mk (blk_below (g := gb115) (o := .cells #[.bool a0_0, .bool a0_1, .bool a0_2, .bool a0_3, .int .u32 a0_4, .int .u32 a0_5, .int .i64 a0_6] 24 (0, 0)) (by (with_reducible repeat (first | refine blk_drewN ?_ _ | refine blk_drew ?_ | refine blk_alloc ?_ _)); exact BK115.out) hb)
                                    have n4_ := Aside0.mk (blk_below (g := gb122) (o := .cells #[.bool a0_0, .bool a0_1, .bool x123002_18, .bool x123003_32, .int .u32 a0_4, .int .u32 a0_5, .int .i64 a0_6] 24 (0, 0)) (by (with_reducible repeat (first | refine blk_drewN ?_ _ | refine blk_drew ?_ | refine blk_alloc ?_ _)); exact BK122.out) hb)
                                    have n5_ := Aside0.mk (blk_below (g := gb127) (o := .cells #[.bool ((rd_T24 y123 x52_4).f0), .bool ((rd_T24 y123 x52_4).f1), .bool ((rd_T24 y123 x52_4).f2), .bool ((rd_T24 y123 x52_4).f3), .int .u32 ((rd_T24 y123 x52_4).f4), .int .u32 ((rd_T24 y123 x52_4).f5), .int .i64 ((rd_T24 y123 x52_4).f6)] 24 (0, 0)) (by (with_reducible repeat (first | refine blk_drewN ?_ _ | refine blk_drew ?_ | refine blk_alloc ?_ _)); exact BK127.out) hb)
                                    have n6_ := Aside0.mk (below_step (by repeat (first | (with_reducible first | exact HB.out | apply below_alloc | apply pw_below_drewN | apply below_drew1 | refine below_set ?_ GE115.out | refine below_set ?_ GE122.out | refine below_set ?_ GE127.out) | exact HB.out)) hb)
                                    clear HO_11
                                    clear HO_50
                                    clear BK115
                                    clear BK122
                                    clear BK127
                                    clear HB
                                    have HO_11 := n0_
                                    have HO_50 := n1_
                                    have HO130 := n2_
                                    have BK115 := n3_
                                    have BK122 := n4_
                                    have BK127 := n5_
                                    have HB := n6_
                                    clear n0_ n1_ n2_ n3_ n4_ n5_ n6_
                                    clear hb ho63
                                    obtain ⟨Ao65, co65, eo65, _⟩ := Kd.Q_slice HO_11.out
                                    (first | subst eo65 | (injection eo65 with f1_ f2_ f3_; have f4_ := f1_.symm; have f5_ := f3_.symm; clear f1_ f2_ f3_; subst f4_; subst f5_))
                                    refine hK.out _ _ ⟨(blk_cell BK127.out 0).trans rfl, (blk_cell BK127.out 1).trans rfl, (blk_cell BK127.out 2).trans rfl, (blk_cell BK127.out 3).trans rfl, (blk_cell BK127.out 4).trans rfl, (blk_cell BK127.out 5).trans rfl, (blk_cell BK127.out 6).trans rfl⟩ (fun hHeld => ?_)
                                    clear hK K
                                    refine norm_ (a' := ?_) ?_ ?_
                                    rotate_left
                                    · show Act.put _ (some 58) _ = _
                                      simp only [Act.put, List.setIfInBounds_toArray, List.set_cons_zero, List.set_cons_succ, i64_w, i32_w]
                                      rfl
                                    refine one_ (i := 3) (N := some 60) #[true, true, true, true, true, false, false, false, false, false, false, false, false, false] rfl rfl (one_of HT_.out (by kernel_rfl)) (by decide) (fun K hK => ?_)
                                    refine Kd.R_append_rows_step (Kd.int .u8) (w0 := w) w.heap.size (by rfl) (.tmp 58) (.tmp 59) 35 5 (.int .u8 0) 1 rfl Tryd.underlying35 info5 rfl (by decide) (by omega) v129 y128 t119 _ _ _ (fun k_ => some k_ ≠ (.slice Ao65 t119.length co65 : Value).ownBlock) (fun _ => False) rfl rfl ?aO ?aR (fun _ _ h => h) (fun _ h => h.elim) ?aF ?aB ?aS ?aL ?_
                                    (case aR => repeat (first | exact (Kd.Q_reads' HO_11.out).2.2 | (with_reducible refine Kd.C_alloc ?_ _) | (with_reducible refine Kd.C_drewN ?_ _) | (with_reducible refine Kd.C_drew ?_)))
                                    (case aB => exact (by repeat (first | (with_reducible first | exact HB.out | apply below_alloc | apply pw_below_drewN | apply below_drew1 | refine below_set ?_ GE115.out | refine below_set ?_ GE122.out | refine below_set ?_ GE127.out) | exact HB.out)))
                                    (case aF => exact (fun k_ hk => Kd.fresh' (Kd.Q_lt (by (with_reducible repeat (first | apply Kd.Q_alloc | apply Kd.Q_drewN | apply Kd.Q_drew)); exact HO_11.out)) k_ hk))
                                    (case aO => exact (by (with_reducible repeat (first | apply Kd.R_alloc | apply Kd.R_drewN | apply Kd.R_drew)); exact Kd.R_mono HO130.out (fun _ hk => hk.2)))
                                    (case aS => exact (below_size (by repeat (first | (with_reducible first | exact HB.out | apply below_alloc | apply pw_below_drewN | apply below_drew1 | refine below_set ?_ GE115.out | refine below_set ?_ GE122.out | refine below_set ?_ GE127.out) | exact HB.out))))
                                    (case aL => have := LMc50.out; omega)
                                    intro v132 w64 ho hb hg hat
                                    rw [← Ny131.out] at ho
                                    have n0_ := Aside0.mk (Kd.Q_after (ok := (fun _ => True)) (by (with_reducible repeat (first | apply Kd.Q_alloc | apply Kd.Q_drewN | apply Kd.Q_drew)); exact HO_11.out) hg hat)
                                    have n1_ := Aside0.mk (Kd.R_over' (by (with_reducible repeat (first | apply Kd.R_alloc | apply Kd.R_drewN | apply Kd.R_drew)); exact HO_50.out) (Kd.R_typed (by (with_reducible repeat (first | apply Kd.R_alloc | apply Kd.R_drewN | apply Kd.R_drew)); exact HO130.out)) (by decide) hg)
                                    have n2_ := Aside0.mk (blk_grown (g := gb115) (o := .cells #[.bool a0_0, .bool a0_1, .bool a0_2, .bool a0_3, .int .u32 a0_4, .int .u32 a0_5, .int .i64 a0_6] 24 (0, 0)) (by (with_reducible repeat (first | refine blk_drewN ?_ _ | refine blk_drew ?_ | refine blk_alloc ?_ _)); exact BK115.out) hg (Kd.R_ne HO130.out BK115.out (by decide)))
                                    have n3_ := Aside0.mk (blk_grown (g := gb122) (o := .cells #[.bool a0_0, .bool a0_1, .bool x123002_18, .bool x123003_32, .int .u32 a0_4, .int .u32 a0_5, .int .i64 a0_6] 24 (0, 0)) (by (with_reducible repeat (first | refine blk_drewN ?_ _ | refine blk_drew ?_ | refine blk_alloc ?_ _)); exact BK122.out) hg (Kd.R_ne HO130.out BK122.out (by decide)))
                                    have n4_ := Aside0.mk (blk_grown (g := gb127) (o := .cells #[.bool ((rd_T24 y123 x52_4).f0), .bool ((rd_T24 y123 x52_4).f1), .bool ((rd_T24 y123 x52_4).f2), .bool ((rd_T24 y123 x52_4).f3), .int .u32 ((rd_T24 y123 x52_4).f4), .int .u32 ((rd_T24 y123 x52_4).f5), .int .i64 ((rd_T24 y123 x52_4).f6)] 24 (0, 0)) (by (with_reducible repeat (first | refine blk_drewN ?_ _ | refine blk_drew ?_ | refine blk_alloc ?_ _)); exact BK127.out) hg (Kd.R_ne HO130.out BK127.out (by decide)))
                                    have n5_ := Aside0.mk (hb)
                                    have n6_ := Aside0.mk (ho)
                                    clear HO_11
                                    clear HO_50
                                    clear BK115
                                    clear BK122
                                    clear BK127
                                    clear HB
                                    clear HO130
                                    have HO_11 := n0_
                                    have HO_50 := n1_
                                    have BK115 := n2_
                                    have BK122 := n3_
                                    have BK127 := n4_
                                    have HB := n5_
                                    have HO133 := n6_
                                    clear n0_ n1_ n2_ n3_ n4_ n5_ n6_
                                    clear ho hb hg hat
                                    refine hK.out _ _ ⟨(blk_cell BK127.out 0).trans rfl, (blk_cell BK127.out 1).trans rfl, (blk_cell BK127.out 2).trans rfl, (blk_cell BK127.out 3).trans rfl, (blk_cell BK127.out 4).trans rfl, (blk_cell BK127.out 5).trans rfl, (blk_cell BK127.out 6).trans rfl⟩ (fun hHeld => ?_)
                                    clear hK K
                                    refine norm_ (a' := ?_) ?_ ?_
                                    rotate_left
                                    · show Act.put _ (some 60) _ = _
                                      simp only [Act.put, List.setIfInBounds_toArray, List.set_cons_zero, List.set_cons_succ, i64_w, i32_w]
                                      rfl
                                    refine one_ (i := 5) (N := some 62) #[true, true, true, true, true, true, false, false, false, false, false, false, false, false] rfl rfl (one_of HT_.out (by kernel_rfl)) (by decide) (fun K hK => ?_)
                                    refine Kd.R_append_rows_step (Kd.int .u8) (w0 := w) w.heap.size (by rfl) (.tmp 60) (.tmp 61) 35 5 (.int .u8 0) 1 rfl Tryd.underlying35 info5 rfl (by decide) (by omega) v132 y131 l2 _ _ _ (fun k_ => some k_ ≠ (.slice Ao65 t119.length co65 : Value).ownBlock) (fun _ => False) rfl rfl ?aO ?aR (fun _ _ h => h) (fun _ h => h.elim) ?aF ?aB ?aS ?aL ?_
                                    (case aR => repeat (first | exact (Kd.C_below HR2.out HB.out) | (with_reducible refine Kd.C_alloc ?_ _) | (with_reducible refine Kd.C_drewN ?_ _) | (with_reducible refine Kd.C_drew ?_)))
                                    (case aB => exact (by repeat (first | (with_reducible first | exact HB.out | apply below_alloc | apply pw_below_drewN | apply below_drew1 | refine below_set ?_ GE115.out | refine below_set ?_ GE122.out | refine below_set ?_ GE127.out) | exact HB.out)))
                                    (case aF => exact (fun k_ hk => Kd.fresh' (Kd.Q_lt (by (with_reducible repeat (first | apply Kd.Q_alloc | apply Kd.Q_drewN | apply Kd.Q_drew)); exact HO_11.out)) k_ hk))
                                    (case aO => exact (by (with_reducible repeat (first | apply Kd.R_alloc | apply Kd.R_drewN | apply Kd.R_drew)); exact HO133.out))
                                    (case aS => exact (below_size (by repeat (first | (with_reducible first | exact HB.out | apply below_alloc | apply pw_below_drewN | apply below_drew1 | refine below_set ?_ GE115.out | refine below_set ?_ GE122.out | refine below_set ?_ GE127.out) | exact HB.out))))
                                    (case aL => have := LMc51.out; omega)
                                    intro v135 w66 ho hb hg hat
                                    rw [← Ny134.out] at ho
                                    have n0_ := Aside0.mk (Kd.Q_after (ok := (fun _ => True)) (by (with_reducible repeat (first | apply Kd.Q_alloc | apply Kd.Q_drewN | apply Kd.Q_drew)); exact HO_11.out) hg hat)
                                    have n1_ := Aside0.mk (Kd.R_over' (by (with_reducible repeat (first | apply Kd.R_alloc | apply Kd.R_drewN | apply Kd.R_drew)); exact HO_50.out) (Kd.R_typed (by (with_reducible repeat (first | apply Kd.R_alloc | apply Kd.R_drewN | apply Kd.R_drew)); exact HO133.out)) (by decide) hg)
                                    have n2_ := Aside0.mk (blk_grown (g := gb115) (o := .cells #[.bool a0_0, .bool a0_1, .bool a0_2, .bool a0_3, .int .u32 a0_4, .int .u32 a0_5, .int .i64 a0_6] 24 (0, 0)) (by (with_reducible repeat (first | refine blk_drewN ?_ _ | refine blk_drew ?_ | refine blk_alloc ?_ _)); exact BK115.out) hg (Kd.R_ne HO133.out BK115.out (by decide)))
                                    have n3_ := Aside0.mk (blk_grown (g := gb122) (o := .cells #[.bool a0_0, .bool a0_1, .bool x123002_18, .bool x123003_32, .int .u32 a0_4, .int .u32 a0_5, .int .i64 a0_6] 24 (0, 0)) (by (with_reducible repeat (first | refine blk_drewN ?_ _ | refine blk_drew ?_ | refine blk_alloc ?_ _)); exact BK122.out) hg (Kd.R_ne HO133.out BK122.out (by decide)))
                                    have n4_ := Aside0.mk (blk_grown (g := gb127) (o := .cells #[.bool ((rd_T24 y123 x52_4).f0), .bool ((rd_T24 y123 x52_4).f1), .bool ((rd_T24 y123 x52_4).f2), .bool ((rd_T24 y123 x52_4).f3), .int .u32 ((rd_T24 y123 x52_4).f4), .int .u32 ((rd_T24 y123 x52_4).f5), .int .i64 ((rd_T24 y123 x52_4).f6)] 24 (0, 0)) (by (with_reducible repeat (first | refine blk_drewN ?_ _ | refine blk_drew ?_ | refine blk_alloc ?_ _)); exact BK127.out) hg (Kd.R_ne HO133.out BK127.out (by decide)))
                                    have n5_ := Aside0.mk (hb)
                                    have n6_ := Aside0.mk (ho)
                                    clear HO_11
                                    clear HO_50
                                    clear BK115
                                    clear BK122
                                    clear BK127
                                    clear HB
                                    clear HO133
                                    have HO_11 := n0_
                                    have HO_50 := n1_
                                    have BK115 := n2_
                                    have BK122 := n3_
                                    have BK127 := n4_
                                    have HB := n5_
                                    have HO136 := n6_
                                    clear n0_ n1_ n2_ n3_ n4_ n5_ n6_
                                    clear ho hb hg hat
                                    obtain ⟨Ao67, co67, eo67⟩ := Kd.R_slice HO136.out
                                    (first | subst eo67 | (injection eo67 with f1_ f2_ f3_; have f4_ := f1_.symm; have f5_ := f3_.symm; clear f1_ f2_ f3_; subst f4_; subst f5_))
                                    refine hK.out _ _ ⟨(blk_cell BK127.out 0).trans rfl, (blk_cell BK127.out 1).trans rfl, (blk_cell BK127.out 2).trans rfl, (blk_cell BK127.out 3).trans rfl, (blk_cell BK127.out 4).trans rfl, (blk_cell BK127.out 5).trans rfl, (blk_cell BK127.out 6).trans rfl⟩ (fun hHeld => ?_)
                                    clear hK K
                                    refine norm_ (a' := ?_) ?_ ?_
                                    rotate_left
                                    · show Act.put _ (some 62) _ = _
                                      simp only [Act.put, List.setIfInBounds_toArray, List.set_cons_zero, List.set_cons_succ, i64_w, i32_w]
                                      rfl
                                    refine one_ (i := 6) (N := some 63) #[true, true, true, true, true, true, true, false, false, false, false, false, false, false] rfl rfl (one_of HT_.out (by kernel_rfl)) (by decide) (fun K hK => ?_)
                                    refine goes_ Tryd.func29 (by kernel_rfl) rfl #[.agg #[.bool ((rd_T24 y123 x52_4).f0), .bool ((rd_T24 y123 x52_4).f1), .bool ((rd_T24 y123 x52_4).f2), .bool ((rd_T24 y123 x52_4).f3), .int .u32 ((rd_T24 y123 x52_4).f4), .int .u32 ((rd_T24 y123 x52_4).f5), .int .i64 ((rd_T24 y123 x52_4).f6)], .slice Ao67 y134.length co67] (by rfl) rfl rfl (by (try simp only [List.map_toArray, List.map_cons, List.map_nil]); first | done | rfl | (simp only [List.length_drop, List.length_take]; rfl)) ?_
                                    with_reducible refine (head_Get.calls k4 ((rd_T24 y123 x52_4).f0) ((rd_T24 y123 x52_4).f1) ((rd_T24 y123 x52_4).f2) ((rd_T24 y123 x52_4).f3) ((rd_T24 y123 x52_4).f4) ((rd_T24 y123 x52_4).f5) ((rd_T24 y123 x52_4).f6) _ _ y134 t137 t138 t139 _ ?side1 ?side2 ?side3 A52.out).mono ?_
                                    (case side1 => repeat (first | exact (Kd.R_reads' HO136.out).2.2 | (with_reducible refine Kd.C_alloc ?_ _) | (with_reducible refine Kd.C_drewN ?_ _) | (with_reducible refine Kd.C_drew ?_)))
                                    (case side2 => exact (Kd.R_reads' HO136.out).2.1)
                                    (case side3 => repeat (first | exact (GH_below HGH.out HB.out) | (with_reducible refine GH_alloc ?_ _) | (with_reducible refine GH_drewN ?_ _) | (with_reducible refine GH_drew ?_)))
                                    rintro e w68 ⟨rfl, hb⟩
                                    refine ⟨_, rfl, ?_⟩
                                    have n0_ := Aside0.mk (Kd.Q_below (by (with_reducible repeat (first | apply Kd.Q_alloc | apply Kd.Q_drewN | apply Kd.Q_drew)); exact HO_11.out) hb)
                                    have n1_ := Aside0.mk (Kd.R_below (by (with_reducible repeat (first | apply Kd.R_alloc | apply Kd.R_drewN | apply Kd.R_drew)); exact HO_50.out) hb)
                                    have n2_ := Aside0.mk (Kd.R_below (by (with_reducible repeat (first | apply Kd.R_alloc | apply Kd.R_drewN | apply Kd.R_drew)); exact HO136.out) hb)
                                    have n3_ := Aside0.mk (blk_below (g := gb115) (o := .cells #[.bool a0_0, .bool a0_1, .bool a0_2, .bool a0_3, .int .u32 a0_4, .int .u32 a0_5, .int .i64 a0_6] 24 (0, 0)) (by (with_reducible repeat (first | refine blk_drewN ?_ _ | refine blk_drew ?_ | refine blk_alloc ?_ _)); exact BK115.out) hb)
                                    have n4_ := Aside0.mk (blk_below (g := gb122) (o := .cells #[.bool a0_0, .bool a0_1, .bool x123002_18, .bool x123003_32, .int .u32 a0_4, .int .u32 a0_5, .int .i64 a0_6] 24 (0, 0)) (by (with_reducible repeat (first | refine blk_drewN ?_ _ | refine blk_drew ?_ | refine blk_alloc ?_ _)); exact BK122.out) hb)
                                    have n5_ := Aside0.mk (blk_below (g := gb127) (o := .cells #[.bool ((rd_T24 y123 x52_4).f0), .bool ((rd_T24 y123 x52_4).f1), .bool ((rd_T24 y123 x52_4).f2), .bool ((rd_T24 y123 x52_4).f3), .int .u32 ((rd_T24 y123 x52_4).f4), .int .u32 ((rd_T24 y123 x52_4).f5), .int .i64 ((rd_T24 y123 x52_4).f6)] 24 (0, 0)) (by (with_reducible repeat (first | refine blk_drewN ?_ _ | refine blk_drew ?_ | refine blk_alloc ?_ _)); exact BK127.out) hb)
                                    have n6_ := Aside0.mk (below_step (by repeat (first | (with_reducible first | exact HB.out | apply below_alloc | apply pw_below_drewN | apply below_drew1 | refine below_set ?_ GE115.out | refine below_set ?_ GE122.out | refine below_set ?_ GE127.out) | exact HB.out)) hb)
                                    clear HO_11
                                    clear HO_50
                                    clear HO136
                                    clear BK115
                                    clear BK122
                                    clear BK127
                                    clear HB
                                    have HO_11 := n0_
                                    have HO_50 := n1_
                                    have HO136 := n2_
                                    have BK115 := n3_
                                    have BK122 := n4_
                                    have BK127 := n5_
                                    have HB := n6_
                                    clear n0_ n1_ n2_ n3_ n4_ n5_ n6_
                                    (try clear hb)
                                    (try clear hb2)
                                    (try clear hk)
                                    (try clear hi)
                                    refine hK.out _ _ ⟨(blk_cell BK127.out 0).trans rfl, (blk_cell BK127.out 1).trans rfl, (blk_cell BK127.out 2).trans rfl, (blk_cell BK127.out 3).trans rfl, (blk_cell BK127.out 4).trans rfl, (blk_cell BK127.out 5).trans rfl, (blk_cell BK127.out 6).trans rfl⟩ (fun hHeld => ?_)
                                    clear hK K
                                    refine norm_ (a' := ?_) ?_ ?_
                                    rotate_left
                                    · show Act.put _ (some 63) _ = _
                                      simp only [Act.put, List.setIfInBounds_toArray, List.set_cons_zero, List.set_cons_succ, i64_w, i32_w]
                                      rfl
                                    refine pure_ (i := 7) (N := some 56) (v := ?_) (a' := ?_) #[true, true, true, true, true, true, true, true, false, false, false, false, false, false] rfl rfl (any_of HT_.out (by kernel_rfl)) (fun _ _ _ h => h) (Or.inl ⟨by rfl, ?_⟩) ?_ ?_
                                    rotate_left
                                    · intro w'
                                      go_simp
                                      with_reducible rfl
                                    rotate_left
                                    · simp only [Act.put, List.setIfInBounds_toArray, List.set_cons_zero, List.set_cons_succ, i64_w, i32_w]
                                      rfl
                                    refine pure_ (i := 8) (N := some 64) (v := ?_) (a' := ?_) #[true, true, true, true, true, true, true, true, true, false, false, false, false, false] rfl rfl (any_of HT_.out (by kernel_rfl)) (fun _ _ _ h => h) (Or.inl ⟨by rfl, ?_⟩) ?_ ?_
                                    rotate_left
                                    · intro w'
                                      go_simp
                                      with_reducible rfl
                                    rotate_left
                                    · simp only [Act.put, List.setIfInBounds_toArray, List.set_cons_zero, List.set_cons_succ, i64_w, i32_w]
                                      rfl
                                    refine pure_ (i := 9) (N := some 65) (v := ?_) (a' := ?_) #[true, true, true, true, true, true, true, true, true, true, false, false, false, false] rfl rfl (any_of HT_.out (by kernel_rfl)) (fun _ _ _ h => h) (Or.inl ⟨by rfl, ?_⟩) ?_ ?_
                                    rotate_left
                                    · intro w'
                                      go_simp
                                      with_reducible rfl
                                    rotate_left
                                    · simp only [Act.put, List.setIfInBounds_toArray, List.set_cons_zero, List.set_cons_succ, i64_w, i32_w]
                                      rfl
                                    refine pure_ (i := 10) (N := some 66) (v := ?_) (a' := ?_) #[true, true, true, true, true, true, true, true, true, true, true, false, false, false] rfl rfl (any_of HT_.out (by kernel_rfl)) (fun _ _ _ h => h) (Or.inl ⟨by rfl, ?_⟩) ?_ ?_
                                    rotate_left
                                    · intro w'
                                      go_simp
                                      with_reducible rfl
                                    rotate_left
                                    · simp only [Act.put, List.setIfInBounds_toArray, List.set_cons_zero, List.set_cons_succ, i64_w, i32_w]
                                      rfl
                                    refine pure_ (i := 11) (N := some 15) (v := ?_) (a' := ?_) #[true, true, true, true, true, true, true, true, true, true, true, true, false, false] rfl rfl (any_of HT_.out (by kernel_rfl)) (fun _ _ _ h => h) (Or.inl ⟨by rfl, ?_⟩) ?_ ?_
                                    rotate_left
                                    · intro w'
                                      go_simp
                                      with_reducible rfl
                                    rotate_left
                                    · simp only [Act.put, List.setIfInBounds_toArray, List.set_cons_zero, List.set_cons_succ, i64_w, i32_w]
                                      rfl
                                    refine pure_ (i := 12) (N := some 16) (v := ?_) (a' := ?_) #[true, true, true, true, true, true, true, true, true, true, true, true, true, false] rfl rfl (any_of HT_.out (by kernel_rfl)) (fun _ _ _ h => h) (Or.inl ⟨by rfl, ?_⟩) ?_ ?_
                                    rotate_left
                                    · intro w'
                                      go_simp
                                      with_reducible rfl
                                    rotate_left
                                    · simp only [Act.put, List.setIfInBounds_toArray, List.set_cons_zero, List.set_cons_succ, i64_w, i32_w]
                                      rfl
                                    refine pure_ (i := 13) (N := some 17) (v := ?_) (a' := ?_) #[true, true, true, true, true, true, true, true, true, true, true, true, true, true] rfl rfl (any_of HT_.out (by kernel_rfl)) (fun _ _ _ h => h) (Or.inl ⟨by rfl, ?_⟩) ?_ ?_
                                    rotate_left
                                    · intro w'
                                      go_simp
                                      with_reducible rfl
                                    rotate_left
                                    · simp only [Act.put, List.setIfInBounds_toArray, List.set_cons_zero, List.set_cons_succ, i64_w, i32_w]
                                      rfl
                                    refine done_ (done_of HT_.out (by kernel_rfl)) ?_
                                    try go_wp2
                                    go_roundg k4
                                    case measure => have := HJ5.out; have := HJ18.out; have := HJ32.out; have := HK4.out; omega
                                    case rel => exact ⟨(wrap64 (x52_4 + 1)), (by first | rfl | (simp; done) | (simp [*]; done)), H', ⟨by have := HJ5.out; have := HJ18.out; have := HJ32.out; have := HK4.out; omega⟩, ⟨by (with_reducible repeat (first | apply Kd.Q_alloc | apply Kd.Q_drewN | apply Kd.Q_drew)); exact Kd.Q_mono HO_11.out (fun _ hk => trivial)⟩, ⟨by (with_reducible repeat (first | apply Kd.R_alloc | apply Kd.R_drewN | apply Kd.R_drew)); exact Kd.R_mono HO_50.out (fun _ hk => ⟨hk.1, hk.2.1⟩)⟩, ⟨by (with_reducible repeat (first | refine blk_drewN ?_ _ | refine blk_drew ?_ | refine blk_alloc ?_ _)); exact BK115.out⟩, ⟨by (with_reducible repeat (first | refine blk_drewN ?_ _ | refine blk_drew ?_ | refine blk_alloc ?_ _)); exact BK122.out⟩, ⟨by repeat (first | (with_reducible first | exact HB.out | apply below_alloc | apply pw_below_drewN | apply below_drew1 | refine below_set ?_ GE115.out | refine below_set ?_ GE122.out | refine below_set ?_ GE127.out) | exact HB.out)⟩⟩
                                  · rw [if_neg c55] at H
                                    have c55b0 : (t138 == (t119.length : Int)) = false := beq_eq_false_iff_ne.mpr c55
                                    have c55b1 : (t138 != (t119.length : Int)) = true := bne_iff_ne.mpr c55
                                    obtain rfl := Option.some.inj H
                                    have p126 : 0 ≤ (x52_4 : Int) := of_decide_eq_true (by first | (with_reducible assumption) | assumption)
                                    have q126 : x52_4 < (y123.length : Int) := of_decide_eq_true (by first | (with_reducible assumption) | assumption)
                                    obtain ⟨ad126, e126, hx126_0, hx126_1, hx126_2, hx126_3, hx126_4, hx126_5, hx126_6⟩ := at_T24 (Kd.R_reads' HO_50.out).2.2 x52_4 p126 q126
                                    cases e126
                                    replace p126 := eq_true p126
                                    replace q126 := eq_true q126
                                    try go_wp2_with (first | ((with_reducible refine gate_dst (N := 14) rfl ?_); (try (refine gate_guard (by rfl) ?_; dsimp only)); refine box_event ?hg (N := 14) ?hd (cs := #[.bool false, .bool false, .bool false, .bool false, .int .u32 0, .int .u32 0, .int .i64 0]) (t := 24) ?hr ?_; (case hd => rfl); (case hg => rfl); (case hr => first | (go_simp; done) | (go_simp; rfl)); intro gb127 hg w69 hbox hb; have n0_ := Aside0.mk (Kd.Q_below (by (with_reducible repeat (first | apply Kd.Q_alloc | apply Kd.Q_drewN | apply Kd.Q_drew)); exact HO_11.out) hb); have n1_ := Aside0.mk (Kd.R_below (Kd.R_elderB (by (with_reducible repeat (first | apply Kd.R_alloc | apply Kd.R_drewN | apply Kd.R_drew)); exact HO_50.out) gb127 (Nat.le_of_eq hg.symm)) hb); have n2_ := Aside0.mk (blk_below (g := gb115) (o := .cells #[.bool a0_0, .bool a0_1, .bool a0_2, .bool a0_3, .int .u32 a0_4, .int .u32 a0_5, .int .i64 a0_6] 24 (0, 0)) (by (with_reducible repeat (first | refine blk_drewN ?_ _ | refine blk_drew ?_ | refine blk_alloc ?_ _)); exact BK115.out) hb); have n3_ := Aside0.mk (blk_below (g := gb122) (o := .cells #[.bool a0_0, .bool a0_1, .bool x123002_18, .bool x123003_32, .int .u32 a0_4, .int .u32 a0_5, .int .i64 a0_6] 24 (0, 0)) (by (with_reducible repeat (first | refine blk_drewN ?_ _ | refine blk_drew ?_ | refine blk_alloc ?_ _)); exact BK122.out) hb); have n4_ := Aside0.mk (below_step (by repeat (first | (with_reducible first | exact HB.out | apply below_alloc | apply pw_below_drewN | apply below_drew1 | refine below_set ?_ GE115.out | refine below_set ?_ GE122.out) | exact HB.out)) hb); have n5_ := Aside0.mk (hbox); have n6_ := Aside0.mk ((by rw [hg]; exact (below_size (by repeat (first | (with_reducible first | exact HB.out | apply below_alloc | apply pw_below_drewN | apply below_drew1 | refine below_set ?_ GE115.out | refine below_set ?_ GE122.out) | exact HB.out))) : w.heap.size ≤ gb127)); have n7_ := Aside0.mk ((by rw [hg]; exact (below_size (by repeat (first | (with_reducible first | exact HB.out | apply below_alloc | apply pw_below_drewN | apply below_drew1 | refine below_set ?_ GE115.out | refine below_set ?_ GE122.out) | exact HB.out))) : w.heap.size ≤ gb127)); have n8_ := Aside0.mk ((by rw [hg]; exact Nat.ne_of_lt (blk_lt (g := gb115) (o := .cells #[.bool a0_0, .bool a0_1, .bool a0_2, .bool a0_3, .int .u32 a0_4, .int .u32 a0_5, .int .i64 a0_6] 24 (0, 0)) (by (with_reducible repeat (first | refine blk_drewN ?_ _ | refine blk_drew ?_ | refine blk_alloc ?_ _)); exact BK115.out)) : gb115 ≠ gb127)); have n9_ := Aside0.mk ((by rw [hg]; exact Nat.ne_of_gt (blk_lt (g := gb115) (o := .cells #[.bool a0_0, .bool a0_1, .bool a0_2, .bool a0_3, .int .u32 a0_4, .int .u32 a0_5, .int .i64 a0_6] 24 (0, 0)) (by (with_reducible repeat (first | refine blk_drewN ?_ _ | refine blk_drew ?_ | refine blk_alloc ?_ _)); exact BK115.out)) : gb127 ≠ gb115)); have n10_ := Aside0.mk ((by rw [hg]; exact Nat.ne_of_lt (blk_lt (g := gb122) (o := .cells #[.bool a0_0, .bool a0_1, .bool x123002_18, .bool x123003_32, .int .u32 a0_4, .int .u32 a0_5, .int .i64 a0_6] 24 (0, 0)) (by (with_reducible repeat (first | refine blk_drewN ?_ _ | refine blk_drew ?_ | refine blk_alloc ?_ _)); exact BK122.out)) : gb122 ≠ gb127)); have n11_ := Aside0.mk ((by rw [hg]; exact Nat.ne_of_gt (blk_lt (g := gb122) (o := .cells #[.bool a0_0, .bool a0_1, .bool x123002_18, .bool x123003_32, .int .u32 a0_4, .int .u32 a0_5, .int .i64 a0_6] 24 (0, 0)) (by (with_reducible repeat (first | refine blk_drewN ?_ _ | refine blk_drew ?_ | refine blk_alloc ?_ _)); exact BK122.out)) : gb127 ≠ gb122)); clear HO_11; clear HO_50; clear BK115; clear BK122; clear HB; have HO_11 := n0_; have HO_50 := n1_; have BK115 := n2_; have BK122 := n3_; have HB := n4_; have BK127 := n5_; have GW127 := n6_; have GE127 := n7_; have NB115_127 := n8_; have NB127_115 := n9_; have NB122_127 := n10_; have NB127_122 := n11_; clear n0_ n1_ n2_ n3_ n4_ n5_ n6_ n7_ n8_ n9_ n10_ n11_; clear hb hbox hg; have hnb70 := NB127_115.out; have hnc70 := NB115_127.out; have hnb71 := NB127_122.out; have hnc71 := NB122_127.out; have hcz72_0 : w69.cell? ⟨gb127, 0, none⟩ = some (.bool false) := (blk_cell BK127.out 0).trans rfl; have hcz72_1 : w69.cell? ⟨gb127, 1, none⟩ = some (.bool false) := (blk_cell BK127.out 1).trans rfl; have hcz72_2 : w69.cell? ⟨gb127, 2, none⟩ = some (.bool false) := (blk_cell BK127.out 2).trans rfl; have hcz72_3 : w69.cell? ⟨gb127, 3, none⟩ = some (.bool false) := (blk_cell BK127.out 3).trans rfl; have hcz72_4 : w69.cell? ⟨gb127, 4, none⟩ = some (.int .u32 0) := (blk_cell BK127.out 4).trans rfl; have hcz72_5 : w69.cell? ⟨gb127, 5, none⟩ = some (.int .u32 0) := (blk_cell BK127.out 5).trans rfl; have hcz72_6 : w69.cell? ⟨gb127, 6, none⟩ = some (.int .i64 0) := (blk_cell BK127.out 6).trans rfl; have hfz72_0 := blk_frozen BK127.out 0; have hfz72_1 := blk_frozen BK127.out 1; have hfz72_2 := blk_frozen BK127.out 2; have hfz72_3 := blk_frozen BK127.out 3; have hfz72_4 := blk_frozen BK127.out 4; have hfz72_5 := blk_frozen BK127.out 5; have hfz72_6 := blk_frozen BK127.out 6))
                                    have n0_ : Aside0 (Kd.Q (Kd.int .u8) 5 (((((((w69.setCell ⟨gb127, 0, none⟩ (.bool ((rd_T24 y123 x52_4).f0))).setCell ⟨gb127, 1, none⟩ (.bool ((rd_T24 y123 x52_4).f1))).setCell ⟨gb127, 2, none⟩ (.bool ((rd_T24 y123 x52_4).f2))).setCell ⟨gb127, 3, none⟩ (.bool ((rd_T24 y123 x52_4).f3))).setCell ⟨gb127, 4, none⟩ (.int .u32 ((rd_T24 y123 x52_4).f4))).setCell ⟨gb127, 5, none⟩ (.int .u32 ((rd_T24 y123 x52_4).f5))).setCell ⟨gb127, 6, none⟩ (.int .i64 ((rd_T24 y123 x52_4).f6))) w.heap.size (fun _ => True) v120 t119) := ⟨by (with_reducible repeat (first | apply Kd.Q_alloc | apply Kd.Q_drewN | apply Kd.Q_drew)); exact Kd.Q_mono (Kd.Q_far (p := ⟨gb127, 6, none⟩) (Kd.Q_far (p := ⟨gb127, 5, none⟩) (Kd.Q_far (p := ⟨gb127, 4, none⟩) (Kd.Q_far (p := ⟨gb127, 3, none⟩) (Kd.Q_far (p := ⟨gb127, 2, none⟩) (Kd.Q_far (p := ⟨gb127, 1, none⟩) (Kd.Q_far (p := ⟨gb127, 0, none⟩) (Kd.Q_types HO_11.out BK127.out (by decide)) (fun _ hk => hk.2) (.bool ((rd_T24 y123 x52_4).f0))) (fun _ hk => hk.2) (.bool ((rd_T24 y123 x52_4).f1))) (fun _ hk => hk.2) (.bool ((rd_T24 y123 x52_4).f2))) (fun _ hk => hk.2) (.bool ((rd_T24 y123 x52_4).f3))) (fun _ hk => hk.2) (.int .u32 ((rd_T24 y123 x52_4).f4))) (fun _ hk => hk.2) (.int .u32 ((rd_T24 y123 x52_4).f5))) (fun _ hk => hk.2) (.int .i64 ((rd_T24 y123 x52_4).f6))) (fun _ hk => trivial)⟩
                                    have n1_ : Aside0 (Kd.R k24 24 (((((((w69.setCell ⟨gb127, 0, none⟩ (.bool ((rd_T24 y123 x52_4).f0))).setCell ⟨gb127, 1, none⟩ (.bool ((rd_T24 y123 x52_4).f1))).setCell ⟨gb127, 2, none⟩ (.bool ((rd_T24 y123 x52_4).f2))).setCell ⟨gb127, 3, none⟩ (.bool ((rd_T24 y123 x52_4).f3))).setCell ⟨gb127, 4, none⟩ (.int .u32 ((rd_T24 y123 x52_4).f4))).setCell ⟨gb127, 5, none⟩ (.int .u32 ((rd_T24 y123 x52_4).f5))).setCell ⟨gb127, 6, none⟩ (.int .i64 ((rd_T24 y123 x52_4).f6))) w.heap.size (fun k_ => k_ ≠ gb115 ∧ k_ ≠ gb122 ∧ k_ ≠ gb127) (.slice (some ad126) y123.length co46) y123) := ⟨by (with_reducible repeat (first | apply Kd.R_alloc | apply Kd.R_drewN | apply Kd.R_drew)); exact Kd.R_mono (Kd.R_far (p := ⟨gb127, 6, none⟩) (Kd.R_far (p := ⟨gb127, 5, none⟩) (Kd.R_far (p := ⟨gb127, 4, none⟩) (Kd.R_far (p := ⟨gb127, 3, none⟩) (Kd.R_far (p := ⟨gb127, 2, none⟩) (Kd.R_far (p := ⟨gb127, 1, none⟩) (Kd.R_far (p := ⟨gb127, 0, none⟩) (Kd.R_mono HO_50.out (fun k_ hk => (⟨hk, hk.2⟩ : _ ∧ k_ ≠ gb127))) (fun _ hk => hk.2) (.bool ((rd_T24 y123 x52_4).f0))) (fun _ hk => hk.2) (.bool ((rd_T24 y123 x52_4).f1))) (fun _ hk => hk.2) (.bool ((rd_T24 y123 x52_4).f2))) (fun _ hk => hk.2) (.bool ((rd_T24 y123 x52_4).f3))) (fun _ hk => hk.2) (.int .u32 ((rd_T24 y123 x52_4).f4))) (fun _ hk => hk.2) (.int .u32 ((rd_T24 y123 x52_4).f5))) (fun _ hk => hk.2) (.int .i64 ((rd_T24 y123 x52_4).f6))) (fun _ hk => ⟨hk.1.1.1, ⟨hk.1.1.2, hk.1.2⟩⟩)⟩
                                    have n2_ : Aside0 ((((((((w69.setCell ⟨gb127, 0, none⟩ (.bool ((rd_T24 y123 x52_4).f0))).setCell ⟨gb127, 1, none⟩ (.bool ((rd_T24 y123 x52_4).f1))).setCell ⟨gb127, 2, none⟩ (.bool ((rd_T24 y123 x52_4).f2))).setCell ⟨gb127, 3, none⟩ (.bool ((rd_T24 y123 x52_4).f3))).setCell ⟨gb127, 4, none⟩ (.int .u32 ((rd_T24 y123 x52_4).f4))).setCell ⟨gb127, 5, none⟩ (.int .u32 ((rd_T24 y123 x52_4).f5))).setCell ⟨gb127, 6, none⟩ (.int .i64 ((rd_T24 y123 x52_4).f6))).heap[gb115]? = some (.cells #[.bool a0_0, .bool a0_1, .bool a0_2, .bool a0_3, .int .u32 a0_4, .int .u32 a0_5, .int .i64 a0_6] 24 (0, 0))) := ⟨by (with_reducible repeat (first | refine blk_drewN ?_ _ | refine blk_drew ?_ | refine blk_alloc ?_ _)); refine blk_far ?_ NB115_127.out _; (with_reducible repeat (first | refine blk_drewN ?_ _ | refine blk_drew ?_ | refine blk_alloc ?_ _)); refine blk_far ?_ NB115_127.out _; (with_reducible repeat (first | refine blk_drewN ?_ _ | refine blk_drew ?_ | refine blk_alloc ?_ _)); refine blk_far ?_ NB115_127.out _; (with_reducible repeat (first | refine blk_drewN ?_ _ | refine blk_drew ?_ | refine blk_alloc ?_ _)); refine blk_far ?_ NB115_127.out _; (with_reducible repeat (first | refine blk_drewN ?_ _ | refine blk_drew ?_ | refine blk_alloc ?_ _)); refine blk_far ?_ NB115_127.out _; (with_reducible repeat (first | refine blk_drewN ?_ _ | refine blk_drew ?_ | refine blk_alloc ?_ _)); refine blk_far ?_ NB115_127.out _; (with_reducible repeat (first | refine blk_drewN ?_ _ | refine blk_drew ?_ | refine blk_alloc ?_ _)); refine blk_far ?_ NB115_127.out _; (with_reducible repeat (first | refine blk_drewN ?_ _ | refine blk_drew ?_ | refine blk_alloc ?_ _)); exact BK115.out⟩
                                    have n3_ : Aside0 ((((((((w69.setCell ⟨gb127, 0, none⟩ (.bool ((rd_T24 y123 x52_4).f0))).setCell ⟨gb127, 1, none⟩ (.bool ((rd_T24 y123 x52_4).f1))).setCell ⟨gb127, 2, none⟩ (.bool ((rd_T24 y123 x52_4).f2))).setCell ⟨gb127, 3, none⟩ (.bool ((rd_T24 y123 x52_4).f3))).setCell ⟨gb127, 4, none⟩ (.int .u32 ((rd_T24 y123 x52_4).f4))).setCell ⟨gb127, 5, none⟩ (.int .u32 ((rd_T24 y123 x52_4).f5))).setCell ⟨gb127, 6, none⟩ (.int .i64 ((rd_T24 y123 x52_4).f6))).heap[gb122]? = some (.cells #[.bool a0_0, .bool a0_1, .bool x123002_18, .bool x123003_32, .int .u32 a0_4, .int .u32 a0_5, .int .i64 a0_6] 24 (0, 0))) := ⟨by (with_reducible repeat (first | refine blk_drewN ?_ _ | refine blk_drew ?_ | refine blk_alloc ?_ _)); refine blk_far ?_ NB122_127.out _; (with_reducible repeat (first | refine blk_drewN ?_ _ | refine blk_drew ?_ | refine blk_alloc ?_ _)); refine blk_far ?_ NB122_127.out _; (with_reducible repeat (first | refine blk_drewN ?_ _ | refine blk_drew ?_ | refine blk_alloc ?_ _)); refine blk_far ?_ NB122_127.out _; (with_reducible repeat (first | refine blk_drewN ?_ _ | refine blk_drew ?_ | refine blk_alloc ?_ _)); refine blk_far ?_ NB122_127.out _; (with_reducible repeat (first | refine blk_drewN ?_ _ | refine blk_drew ?_ | refine blk_alloc ?_ _)); refine blk_far ?_ NB122_127.out _; (with_reducible repeat (first | refine blk_drewN ?_ _ | refine blk_drew ?_ | refine blk_alloc ?_ _)); refine blk_far ?_ NB122_127.out _; (with_reducible repeat (first | refine blk_drewN ?_ _ | refine blk_drew ?_ | refine blk_alloc ?_ _)); refine blk_far ?_ NB122_127.out _; (with_reducible repeat (first | refine blk_drewN ?_ _ | refine blk_drew ?_ | refine blk_alloc ?_ _)); exact BK122.out⟩
                                    have n4_ : Aside0 ((((((((w69.setCell ⟨gb127, 0, none⟩ (.bool ((rd_T24 y123 x52_4).f0))).setCell ⟨gb127, 1, none⟩ (.bool ((rd_T24 y123 x52_4).f1))).setCell ⟨gb127, 2, none⟩ (.bool ((rd_T24 y123 x52_4).f2))).setCell ⟨gb127, 3, none⟩ (.bool ((rd_T24 y123 x52_4).f3))).setCell ⟨gb127, 4, none⟩ (.int .u32 ((rd_T24 y123 x52_4).f4))).setCell ⟨gb127, 5, none⟩ (.int .u32 ((rd_T24 y123 x52_4).f5))).setCell ⟨gb127, 6, none⟩ (.int .i64 ((rd_T24 y123 x52_4).f6))).heap[gb127]? = some (.cells #[.bool ((rd_T24 y123 x52_4).f0), .bool ((rd_T24 y123 x52_4).f1), .bool ((rd_T24 y123 x52_4).f2), .bool ((rd_T24 y123 x52_4).f3), .int .u32 ((rd_T24 y123 x52_4).f4), .int .u32 ((rd_T24 y123 x52_4).f5), .int .i64 ((rd_T24 y123 x52_4).f6)] 24 (0, 0))) := ⟨by (with_reducible repeat (first | refine blk_drewN ?_ _ | refine blk_drew ?_ | refine blk_alloc ?_ _)); refine blk_put (cs := #[.bool ((rd_T24 y123 x52_4).f0), .bool ((rd_T24 y123 x52_4).f1), .bool ((rd_T24 y123 x52_4).f2), .bool ((rd_T24 y123 x52_4).f3), .int .u32 ((rd_T24 y123 x52_4).f4), .int .u32 ((rd_T24 y123 x52_4).f5), .int .i64 0]) ?_ 6 _ rfl; (with_reducible repeat (first | refine blk_drewN ?_ _ | refine blk_drew ?_ | refine blk_alloc ?_ _)); refine blk_put (cs := #[.bool ((rd_T24 y123 x52_4).f0), .bool ((rd_T24 y123 x52_4).f1), .bool ((rd_T24 y123 x52_4).f2), .bool ((rd_T24 y123 x52_4).f3), .int .u32 ((rd_T24 y123 x52_4).f4), .int .u32 0, .int .i64 0]) ?_ 5 _ rfl; (with_reducible repeat (first | refine blk_drewN ?_ _ | refine blk_drew ?_ | refine blk_alloc ?_ _)); refine blk_put (cs := #[.bool ((rd_T24 y123 x52_4).f0), .bool ((rd_T24 y123 x52_4).f1), .bool ((rd_T24 y123 x52_4).f2), .bool ((rd_T24 y123 x52_4).f3), .int .u32 0, .int .u32 0, .int .i64 0]) ?_ 4 _ rfl; (with_reducible repeat (first | refine blk_drewN ?_ _ | refine blk_drew ?_ | refine blk_alloc ?_ _)); refine blk_put (cs := #[.bool ((rd_T24 y123 x52_4).f0), .bool ((rd_T24 y123 x52_4).f1), .bool ((rd_T24 y123 x52_4).f2), .bool false, .int .u32 0, .int .u32 0, .int .i64 0]) ?_ 3 _ rfl; (with_reducible repeat (first | refine blk_drewN ?_ _ | refine blk_drew ?_ | refine blk_alloc ?_ _)); refine blk_put (cs := #[.bool ((rd_T24 y123 x52_4).f0), .bool ((rd_T24 y123 x52_4).f1), .bool false, .bool false, .int .u32 0, .int .u32 0, .int .i64 0]) ?_ 2 _ rfl; (with_reducible repeat (first | refine blk_drewN ?_ _ | refine blk_drew ?_ | refine blk_alloc ?_ _)); refine blk_put (cs := #[.bool ((rd_T24 y123 x52_4).f0), .bool false, .bool false, .bool false, .int .u32 0, .int .u32 0, .int .i64 0]) ?_ 1 _ rfl; (with_reducible repeat (first | refine blk_drewN ?_ _ | refine blk_drew ?_ | refine blk_alloc ?_ _)); refine blk_put (cs := #[.bool false, .bool false, .bool false, .bool false, .int .u32 0, .int .u32 0, .int .i64 0]) ?_ 0 _ rfl; (with_reducible repeat (first | refine blk_drewN ?_ _ | refine blk_drew ?_ | refine blk_alloc ?_ _)); exact BK127.out⟩
                                    have n5_ : Aside0 (Below w.heap.size w (((((((w69.setCell ⟨gb127, 0, none⟩ (.bool ((rd_T24 y123 x52_4).f0))).setCell ⟨gb127, 1, none⟩ (.bool ((rd_T24 y123 x52_4).f1))).setCell ⟨gb127, 2, none⟩ (.bool ((rd_T24 y123 x52_4).f2))).setCell ⟨gb127, 3, none⟩ (.bool ((rd_T24 y123 x52_4).f3))).setCell ⟨gb127, 4, none⟩ (.int .u32 ((rd_T24 y123 x52_4).f4))).setCell ⟨gb127, 5, none⟩ (.int .u32 ((rd_T24 y123 x52_4).f5))).setCell ⟨gb127, 6, none⟩ (.int .i64 ((rd_T24 y123 x52_4).f6)))) := ⟨by repeat (first | (with_reducible first | exact HB.out | apply below_alloc | apply pw_below_drewN | apply below_drew1 | refine below_set ?_ GE115.out | refine below_set ?_ GE122.out | refine below_set ?_ GE127.out) | exact HB.out)⟩
                                    (try clear HO_11)
                                    (try clear HO_50)
                                    (try clear BK115)
                                    (try clear BK122)
                                    (try clear BK127)
                                    (try clear HB)
                                    generalize (((((((w69.setCell ⟨gb127, 0, none⟩ (.bool ((rd_T24 y123 x52_4).f0))).setCell ⟨gb127, 1, none⟩ (.bool ((rd_T24 y123 x52_4).f1))).setCell ⟨gb127, 2, none⟩ (.bool ((rd_T24 y123 x52_4).f2))).setCell ⟨gb127, 3, none⟩ (.bool ((rd_T24 y123 x52_4).f3))).setCell ⟨gb127, 4, none⟩ (.int .u32 ((rd_T24 y123 x52_4).f4))).setCell ⟨gb127, 5, none⟩ (.int .u32 ((rd_T24 y123 x52_4).f5))).setCell ⟨gb127, 6, none⟩ (.int .i64 ((rd_T24 y123 x52_4).f6))) = w73 at n0_ n1_ n2_ n3_ n4_ n5_ ⊢
                                    have HO_11 := n0_
                                    have HO_50 := n1_
                                    have BK115 := n2_
                                    have BK122 := n3_
                                    have BK127 := n4_
                                    have HB := n5_
                                    clear n0_ n1_ n2_ n3_ n4_ n5_
                                    have n0_ := Aside0.mk (Kd.Q_drew HO_11.out)
                                    have n1_ := Aside0.mk (Kd.R_drew HO_50.out)
                                    have n2_ := Aside0.mk (blk_drew BK115.out)
                                    have n3_ := Aside0.mk (blk_drew BK122.out)
                                    have n4_ := Aside0.mk (blk_drew BK127.out)
                                    have n5_ := Aside0.mk (below_drew1 HB.out)
                                    clear HO_11
                                    clear HO_50
                                    clear BK115
                                    clear BK122
                                    clear BK127
                                    clear HB
                                    have HO_11 := n0_
                                    have HO_50 := n1_
                                    have BK115 := n2_
                                    have BK122 := n3_
                                    have BK127 := n4_
                                    have HB := n5_
                                    clear n0_ n1_ n2_ n3_ n4_ n5_
                                    refine start_ (n := 14) (S := fun w' => w'.cell? ⟨gb127, 0, none⟩ = some (.bool ((rd_T24 y123 x52_4).f0)) ∧ w'.cell? ⟨gb127, 1, none⟩ = some (.bool ((rd_T24 y123 x52_4).f1)) ∧ w'.cell? ⟨gb127, 2, none⟩ = some (.bool ((rd_T24 y123 x52_4).f2)) ∧ w'.cell? ⟨gb127, 3, none⟩ = some (.bool ((rd_T24 y123 x52_4).f3)) ∧ w'.cell? ⟨gb127, 4, none⟩ = some (.int .u32 ((rd_T24 y123 x52_4).f4)) ∧ w'.cell? ⟨gb127, 5, none⟩ = some (.int .u32 ((rd_T24 y123 x52_4).f5)) ∧ w'.cell? ⟨gb127, 6, none⟩ = some (.int .i64 ((rd_T24 y123 x52_4).f6))) (ds := []) #[false, false, false, false, false, false, false, false, false, false, false, false, false, false] (by kernel_rfl) rfl rfl ⟨(blk_cell BK127.out 0).trans rfl, (blk_cell BK127.out 1).trans rfl, (blk_cell BK127.out 2).trans rfl, (blk_cell BK127.out 3).trans rfl, (blk_cell BK127.out 4).trans rfl, (blk_cell BK127.out 5).trans rfl, (blk_cell BK127.out 6).trans rfl⟩ (fun hHeld => ?_); refine with_tabW marlinelaw10_HeadBack.tab10 marlinelaw10_HeadBack.bits10 (fun HT_ HW_ => ?_)
                                    generalize w73.drew = w74 at HO_11 HO_50 BK115 BK122 BK127 HB hHeld ⊢
                                    refine pure_ (i := 2) (N := some 59) (v := ?_) (a' := ?_) #[false, false, true, false, false, false, false, false, false, false, false, false, false, false] rfl rfl (any_of HT_.out (by kernel_rfl)) (fun _ _ _ h => h) (Or.inl ⟨by rfl, ?_⟩) ?_ ?_
                                    rotate_left
                                    · intro w'
                                      go_simp
                                      with_reducible rfl
                                    rotate_left
                                    · simp only [Act.put, List.setIfInBounds_toArray, List.set_cons_zero, List.set_cons_succ, i64_w, i32_w]
                                      rfl
                                    refine pure_ (i := 4) (N := some 61) (v := ?_) (a' := ?_) #[false, false, true, false, true, false, false, false, false, false, false, false, false, false] rfl rfl (any_of HT_.out (by kernel_rfl)) (fun _ _ _ h => h) (Or.inl ⟨by rfl, ?_⟩) ?_ ?_
                                    rotate_left
                                    · intro w'
                                      go_simp
                                      with_reducible rfl
                                    rotate_left
                                    · simp only [Act.put, List.setIfInBounds_toArray, List.set_cons_zero, List.set_cons_succ, i64_w, i32_w]
                                      rfl
                                    refine take_ (i := 0) (N := some 57) (v := ?_) (a' := ?_) #[true, false, true, false, true, false, false, false, false, false, false, false, false, false] rfl rfl (take_ofW HT_.out HW_.out (by kernel_rfl)) (fun _ _ _ h => h) (Or.inl ⟨by rfl, ?_⟩) hHeld ?_ ?_
                                    rotate_left
                                    · rintro w' ⟨s0, s1, s2, s3, s4, s5, s6⟩
                                      go_simp
                                      with_reducible rfl
                                    rotate_left
                                    · simp only [Act.put, List.setIfInBounds_toArray, List.set_cons_zero, List.set_cons_succ, i64_w, i32_w]
                                      rfl
                                    refine one_ (i := 1) (N := some 58) #[true, true, true, false, true, false, false, false, false, false, false, false, false, false] rfl rfl (one_of HT_.out (by kernel_rfl)) (by decide) (fun K hK => ?_)
                                    refine Kd.R_lit_step (Kd.int .u8) _ 5 ?hg (N := 58) ?hd (xs := ([] : List Int)) (inner := []) (ok := fun _ => True) (okp := fun _ => True) ?hr ?hp (fun _ hk => hk) trivial (Below.refl _ _) (Nat.le_refl _) (by simp) ?_; (case hd => rfl); (case hg => rfl); (case hr => first | (go_simp; done) | (go_simp; rfl)); (case hp => exact (Reps.none _ _))
                                    intro v129 w75 ho76 hb hg_ hnew_
                                    clear hg_ hnew_
                                    (first | rw [← Ny128.out] at ho76 | (simp only [Int.reduceToNat] at ho76; rw [← Ny128.out] at ho76))
                                    have n0_ := Aside0.mk (Kd.Q_elder' (by (with_reducible repeat (first | apply Kd.Q_alloc | apply Kd.Q_drewN | apply Kd.Q_drew)); exact HO_11.out) (Kd.R_base ho76) hb)
                                    have n1_ := Aside0.mk (Kd.R_below (by (with_reducible repeat (first | apply Kd.R_alloc | apply Kd.R_drewN | apply Kd.R_drew)); exact HO_50.out) hb)
                                    have n2_ := Aside0.mk (Kd.R_lower (Kd.R_new' ho76 (Kd.Q_lt (by (with_reducible repeat (first | apply Kd.Q_alloc | apply Kd.Q_drewN | apply Kd.Q_drew)); exact HO_11.out))) (below_size (by repeat (first | (with_reducible first | exact HB.out | apply below_alloc | apply pw_below_drewN | apply below_drew1 | refine below_set ?_ GE115.out | refine below_set ?_ GE122.out | refine below_set ?_ GE127.out) | exact HB.out))))
                                    have n3_ := Aside0.mk (blk_below (g := gb115) (o := .cells #[.bool a0_0, .bool a0_1, .bool a0_2, .bool a0_3, .int .u32 a0_4, .int .u32 a0_5, .int .i64 a0_6] 24 (0, 0)) (by (with_reducible repeat (first | refine blk_drewN ?_ _ | refine blk_drew ?_ | refine blk_alloc ?_ _)); exact BK115.out) hb)
                                    have n4_ := Aside0.mk (blk_below (g := gb122) (o := .cells #[.bool a0_0, .bool a0_1, .bool x123002_18, .bool x123003_32, .int .u32 a0_4, .int .u32 a0_5, .int .i64 a0_6] 24 (0, 0)) (by (with_reducible repeat (first | refine blk_drewN ?_ _ | refine blk_drew ?_ | refine blk_alloc ?_ _)); exact BK122.out) hb)
                                    have n5_ := Aside0.mk (blk_below (g := gb127) (o := .cells #[.bool ((rd_T24 y123 x52_4).f0), .bool ((rd_T24 y123 x52_4).f1), .bool ((rd_T24 y123 x52_4).f2), .bool ((rd_T24 y123 x52_4).f3), .int .u32 ((rd_T24 y123 x52_4).f4), .int .u32 ((rd_T24 y123 x52_4).f5), .int .i64 ((rd_T24 y123 x52_4).f6)] 24 (0, 0)) (by (with_reducible repeat (first | refine blk_drewN ?_ _ | refine blk_drew ?_ | refine blk_alloc ?_ _)); exact BK127.out) hb)
                                    have n6_ := Aside0.mk (below_step (by repeat (first | (with_reducible first | exact HB.out | apply below_alloc | apply pw_below_drewN | apply below_drew1 | refine below_set ?_ GE115.out | refine below_set ?_ GE122.out | refine below_set ?_ GE127.out) | exact HB.out)) hb)
                                    clear HO_11
                                    clear HO_50
                                    clear BK115
                                    clear BK122
                                    clear BK127
                                    clear HB
                                    have HO_11 := n0_
                                    have HO_50 := n1_
                                    have HO130 := n2_
                                    have BK115 := n3_
                                    have BK122 := n4_
                                    have BK127 := n5_
                                    have HB := n6_
                                    clear n0_ n1_ n2_ n3_ n4_ n5_ n6_
                                    clear hb ho76
                                    obtain ⟨Ao78, co78, eo78, _⟩ := Kd.Q_slice HO_11.out
                                    (first | subst eo78 | (injection eo78 with f1_ f2_ f3_; have f4_ := f1_.symm; have f5_ := f3_.symm; clear f1_ f2_ f3_; subst f4_; subst f5_))
                                    refine hK.out _ _ ⟨(blk_cell BK127.out 0).trans rfl, (blk_cell BK127.out 1).trans rfl, (blk_cell BK127.out 2).trans rfl, (blk_cell BK127.out 3).trans rfl, (blk_cell BK127.out 4).trans rfl, (blk_cell BK127.out 5).trans rfl, (blk_cell BK127.out 6).trans rfl⟩ (fun hHeld => ?_)
                                    clear hK K
                                    refine norm_ (a' := ?_) ?_ ?_
                                    rotate_left
                                    · show Act.put _ (some 58) _ = _
                                      simp only [Act.put, List.setIfInBounds_toArray, List.set_cons_zero, List.set_cons_succ, i64_w, i32_w]
                                      rfl
                                    refine one_ (i := 3) (N := some 60) #[true, true, true, true, true, false, false, false, false, false, false, false, false, false] rfl rfl (one_of HT_.out (by kernel_rfl)) (by decide) (fun K hK => ?_)
                                    refine Kd.R_append_rows_step (Kd.int .u8) (w0 := w) w.heap.size (by rfl) (.tmp 58) (.tmp 59) 35 5 (.int .u8 0) 1 rfl Tryd.underlying35 info5 rfl (by decide) (by omega) v129 y128 t119 _ _ _ (fun k_ => some k_ ≠ (.slice Ao78 t119.length co78 : Value).ownBlock) (fun _ => False) rfl rfl ?aO ?aR (fun _ _ h => h) (fun _ h => h.elim) ?aF ?aB ?aS ?aL ?_
                                    (case aR => repeat (first | exact (Kd.Q_reads' HO_11.out).2.2 | (with_reducible refine Kd.C_alloc ?_ _) | (with_reducible refine Kd.C_drewN ?_ _) | (with_reducible refine Kd.C_drew ?_)))
                                    (case aB => exact (by repeat (first | (with_reducible first | exact HB.out | apply below_alloc | apply pw_below_drewN | apply below_drew1 | refine below_set ?_ GE115.out | refine below_set ?_ GE122.out | refine below_set ?_ GE127.out) | exact HB.out)))
                                    (case aF => exact (fun k_ hk => Kd.fresh' (Kd.Q_lt (by (with_reducible repeat (first | apply Kd.Q_alloc | apply Kd.Q_drewN | apply Kd.Q_drew)); exact HO_11.out)) k_ hk))
                                    (case aO => exact (by (with_reducible repeat (first | apply Kd.R_alloc | apply Kd.R_drewN | apply Kd.R_drew)); exact Kd.R_mono HO130.out (fun _ hk => hk.2)))
                                    (case aS => exact (below_size (by repeat (first | (with_reducible first | exact HB.out | apply below_alloc | apply pw_below_drewN | apply below_drew1 | refine below_set ?_ GE115.out | refine below_set ?_ GE122.out | refine below_set ?_ GE127.out) | exact HB.out))))
                                    (case aL => have := LMc50.out; omega)
                                    intro v132 w77 ho hb hg hat
                                    rw [← Ny131.out] at ho
                                    have n0_ := Aside0.mk (Kd.Q_after (ok := (fun _ => True)) (by (with_reducible repeat (first | apply Kd.Q_alloc | apply Kd.Q_drewN | apply Kd.Q_drew)); exact HO_11.out) hg hat)
                                    have n1_ := Aside0.mk (Kd.R_over' (by (with_reducible repeat (first | apply Kd.R_alloc | apply Kd.R_drewN | apply Kd.R_drew)); exact HO_50.out) (Kd.R_typed (by (with_reducible repeat (first | apply Kd.R_alloc | apply Kd.R_drewN | apply Kd.R_drew)); exact HO130.out)) (by decide) hg)
                                    have n2_ := Aside0.mk (blk_grown (g := gb115) (o := .cells #[.bool a0_0, .bool a0_1, .bool a0_2, .bool a0_3, .int .u32 a0_4, .int .u32 a0_5, .int .i64 a0_6] 24 (0, 0)) (by (with_reducible repeat (first | refine blk_drewN ?_ _ | refine blk_drew ?_ | refine blk_alloc ?_ _)); exact BK115.out) hg (Kd.R_ne HO130.out BK115.out (by decide)))
                                    have n3_ := Aside0.mk (blk_grown (g := gb122) (o := .cells #[.bool a0_0, .bool a0_1, .bool x123002_18, .bool x123003_32, .int .u32 a0_4, .int .u32 a0_5, .int .i64 a0_6] 24 (0, 0)) (by (with_reducible repeat (first | refine blk_drewN ?_ _ | refine blk_drew ?_ | refine blk_alloc ?_ _)); exact BK122.out) hg (Kd.R_ne HO130.out BK122.out (by decide)))
                                    have n4_ := Aside0.mk (blk_grown (g := gb127) (o := .cells #[.bool ((rd_T24 y123 x52_4).f0), .bool ((rd_T24 y123 x52_4).f1), .bool ((rd_T24 y123 x52_4).f2), .bool ((rd_T24 y123 x52_4).f3), .int .u32 ((rd_T24 y123 x52_4).f4), .int .u32 ((rd_T24 y123 x52_4).f5), .int .i64 ((rd_T24 y123 x52_4).f6)] 24 (0, 0)) (by (with_reducible repeat (first | refine blk_drewN ?_ _ | refine blk_drew ?_ | refine blk_alloc ?_ _)); exact BK127.out) hg (Kd.R_ne HO130.out BK127.out (by decide)))
                                    have n5_ := Aside0.mk (hb)
                                    have n6_ := Aside0.mk (ho)
                                    clear HO_11
                                    clear HO_50
                                    clear BK115
                                    clear BK122
                                    clear BK127
                                    clear HB
                                    clear HO130
                                    have HO_11 := n0_
                                    have HO_50 := n1_
                                    have BK115 := n2_
                                    have BK122 := n3_
                                    have BK127 := n4_
                                    have HB := n5_
                                    have HO133 := n6_
                                    clear n0_ n1_ n2_ n3_ n4_ n5_ n6_
                                    clear ho hb hg hat
                                    refine hK.out _ _ ⟨(blk_cell BK127.out 0).trans rfl, (blk_cell BK127.out 1).trans rfl, (blk_cell BK127.out 2).trans rfl, (blk_cell BK127.out 3).trans rfl, (blk_cell BK127.out 4).trans rfl, (blk_cell BK127.out 5).trans rfl, (blk_cell BK127.out 6).trans rfl⟩ (fun hHeld => ?_)
                                    clear hK K
                                    refine norm_ (a' := ?_) ?_ ?_
                                    rotate_left
                                    · show Act.put _ (some 60) _ = _
                                      simp only [Act.put, List.setIfInBounds_toArray, List.set_cons_zero, List.set_cons_succ, i64_w, i32_w]
                                      rfl
                                    refine one_ (i := 5) (N := some 62) #[true, true, true, true, true, true, false, false, false, false, false, false, false, false] rfl rfl (one_of HT_.out (by kernel_rfl)) (by decide) (fun K hK => ?_)
                                    refine Kd.R_append_rows_step (Kd.int .u8) (w0 := w) w.heap.size (by rfl) (.tmp 60) (.tmp 61) 35 5 (.int .u8 0) 1 rfl Tryd.underlying35 info5 rfl (by decide) (by omega) v132 y131 l2 _ _ _ (fun k_ => some k_ ≠ (.slice Ao78 t119.length co78 : Value).ownBlock) (fun _ => False) rfl rfl ?aO ?aR (fun _ _ h => h) (fun _ h => h.elim) ?aF ?aB ?aS ?aL ?_
                                    (case aR => repeat (first | exact (Kd.C_below HR2.out HB.out) | (with_reducible refine Kd.C_alloc ?_ _) | (with_reducible refine Kd.C_drewN ?_ _) | (with_reducible refine Kd.C_drew ?_)))
                                    (case aB => exact (by repeat (first | (with_reducible first | exact HB.out | apply below_alloc | apply pw_below_drewN | apply below_drew1 | refine below_set ?_ GE115.out | refine below_set ?_ GE122.out | refine below_set ?_ GE127.out) | exact HB.out)))
                                    (case aF => exact (fun k_ hk => Kd.fresh' (Kd.Q_lt (by (with_reducible repeat (first | apply Kd.Q_alloc | apply Kd.Q_drewN | apply Kd.Q_drew)); exact HO_11.out)) k_ hk))
                                    (case aO => exact (by (with_reducible repeat (first | apply Kd.R_alloc | apply Kd.R_drewN | apply Kd.R_drew)); exact HO133.out))
                                    (case aS => exact (below_size (by repeat (first | (with_reducible first | exact HB.out | apply below_alloc | apply pw_below_drewN | apply below_drew1 | refine below_set ?_ GE115.out | refine below_set ?_ GE122.out | refine below_set ?_ GE127.out) | exact HB.out))))
                                    (case aL => have := LMc51.out; omega)
                                    intro v135 w79 ho hb hg hat
                                    rw [← Ny134.out] at ho
                                    have n0_ := Aside0.mk (Kd.Q_after (ok := (fun _ => True)) (by (with_reducible repeat (first | apply Kd.Q_alloc | apply Kd.Q_drewN | apply Kd.Q_drew)); exact HO_11.out) hg hat)
                                    have n1_ := Aside0.mk (Kd.R_over' (by (with_reducible repeat (first | apply Kd.R_alloc | apply Kd.R_drewN | apply Kd.R_drew)); exact HO_50.out) (Kd.R_typed (by (with_reducible repeat (first | apply Kd.R_alloc | apply Kd.R_drewN | apply Kd.R_drew)); exact HO133.out)) (by decide) hg)
                                    have n2_ := Aside0.mk (blk_grown (g := gb115) (o := .cells #[.bool a0_0, .bool a0_1, .bool a0_2, .bool a0_3, .int .u32 a0_4, .int .u32 a0_5, .int .i64 a0_6] 24 (0, 0)) (by (with_reducible repeat (first | refine blk_drewN ?_ _ | refine blk_drew ?_ | refine blk_alloc ?_ _)); exact BK115.out) hg (Kd.R_ne HO133.out BK115.out (by decide)))
                                    have n3_ := Aside0.mk (blk_grown (g := gb122) (o := .cells #[.bool a0_0, .bool a0_1, .bool x123002_18, .bool x123003_32, .int .u32 a0_4, .int .u32 a0_5, .int .i64 a0_6] 24 (0, 0)) (by (with_reducible repeat (first | refine blk_drewN ?_ _ | refine blk_drew ?_ | refine blk_alloc ?_ _)); exact BK122.out) hg (Kd.R_ne HO133.out BK122.out (by decide)))
                                    have n4_ := Aside0.mk (blk_grown (g := gb127) (o := .cells #[.bool ((rd_T24 y123 x52_4).f0), .bool ((rd_T24 y123 x52_4).f1), .bool ((rd_T24 y123 x52_4).f2), .bool ((rd_T24 y123 x52_4).f3), .int .u32 ((rd_T24 y123 x52_4).f4), .int .u32 ((rd_T24 y123 x52_4).f5), .int .i64 ((rd_T24 y123 x52_4).f6)] 24 (0, 0)) (by (with_reducible repeat (first | refine blk_drewN ?_ _ | refine blk_drew ?_ | refine blk_alloc ?_ _)); exact BK127.out) hg (Kd.R_ne HO133.out BK127.out (by decide)))
                                    have n5_ := Aside0.mk (hb)
                                    have n6_ := Aside0.mk (ho)
                                    clear HO_11
                                    clear HO_50
                                    clear BK115
                                    clear BK122
                                    clear BK127
                                    clear HB
                                    clear HO133
                                    have HO_11 := n0_
                                    have HO_50 := n1_
                                    have BK115 := n2_
                                    have BK122 := n3_
                                    have BK127 := n4_
                                    have HB := n5_
                                    have HO136 := n6_
                                    clear n0_ n1_ n2_ n3_ n4_ n5_ n6_
                                    clear ho hb hg hat
                                    obtain ⟨Ao80, co80, eo80⟩ := Kd.R_slice HO136.out
                                    (first | subst eo80 | (injection eo80 with f1_ f2_ f3_; have f4_ := f1_.symm; have f5_ := f3_.symm; clear f1_ f2_ f3_; subst f4_; subst f5_))
                                    refine hK.out _ _ ⟨(blk_cell BK127.out 0).trans rfl, (blk_cell BK127.out 1).trans rfl, (blk_cell BK127.out 2).trans rfl, (blk_cell BK127.out 3).trans rfl, (blk_cell BK127.out 4).trans rfl, (blk_cell BK127.out 5).trans rfl, (blk_cell BK127.out 6).trans rfl⟩ (fun hHeld => ?_)
                                    clear hK K
                                    refine norm_ (a' := ?_) ?_ ?_
                                    rotate_left
                                    · show Act.put _ (some 62) _ = _
                                      simp only [Act.put, List.setIfInBounds_toArray, List.set_cons_zero, List.set_cons_succ, i64_w, i32_w]
                                      rfl
                                    refine one_ (i := 6) (N := some 63) #[true, true, true, true, true, true, true, false, false, false, false, false, false, false] rfl rfl (one_of HT_.out (by kernel_rfl)) (by decide) (fun K hK => ?_)
                                    refine goes_ Tryd.func29 (by kernel_rfl) rfl #[.agg #[.bool ((rd_T24 y123 x52_4).f0), .bool ((rd_T24 y123 x52_4).f1), .bool ((rd_T24 y123 x52_4).f2), .bool ((rd_T24 y123 x52_4).f3), .int .u32 ((rd_T24 y123 x52_4).f4), .int .u32 ((rd_T24 y123 x52_4).f5), .int .i64 ((rd_T24 y123 x52_4).f6)], .slice Ao80 y134.length co80] (by rfl) rfl rfl (by (try simp only [List.map_toArray, List.map_cons, List.map_nil]); first | done | rfl | (simp only [List.length_drop, List.length_take]; rfl)) ?_
                                    with_reducible refine (head_Get.calls k4 ((rd_T24 y123 x52_4).f0) ((rd_T24 y123 x52_4).f1) ((rd_T24 y123 x52_4).f2) ((rd_T24 y123 x52_4).f3) ((rd_T24 y123 x52_4).f4) ((rd_T24 y123 x52_4).f5) ((rd_T24 y123 x52_4).f6) _ _ y134 t137 t138 t139 _ ?side1 ?side2 ?side3 A52.out).mono ?_
                                    (case side1 => repeat (first | exact (Kd.R_reads' HO136.out).2.2 | (with_reducible refine Kd.C_alloc ?_ _) | (with_reducible refine Kd.C_drewN ?_ _) | (with_reducible refine Kd.C_drew ?_)))
                                    (case side2 => exact (Kd.R_reads' HO136.out).2.1)
                                    (case side3 => repeat (first | exact (GH_below HGH.out HB.out) | (with_reducible refine GH_alloc ?_ _) | (with_reducible refine GH_drewN ?_ _) | (with_reducible refine GH_drew ?_)))
                                    rintro e w81 ⟨rfl, hb⟩
                                    refine ⟨_, rfl, ?_⟩
                                    have n0_ := Aside0.mk (Kd.Q_below (by (with_reducible repeat (first | apply Kd.Q_alloc | apply Kd.Q_drewN | apply Kd.Q_drew)); exact HO_11.out) hb)
                                    have n1_ := Aside0.mk (Kd.R_below (by (with_reducible repeat (first | apply Kd.R_alloc | apply Kd.R_drewN | apply Kd.R_drew)); exact HO_50.out) hb)
                                    have n2_ := Aside0.mk (Kd.R_below (by (with_reducible repeat (first | apply Kd.R_alloc | apply Kd.R_drewN | apply Kd.R_drew)); exact HO136.out) hb)
                                    have n3_ := Aside0.mk (blk_below (g := gb115) (o := .cells #[.bool a0_0, .bool a0_1, .bool a0_2, .bool a0_3, .int .u32 a0_4, .int .u32 a0_5, .int .i64 a0_6] 24 (0, 0)) (by (with_reducible repeat (first | refine blk_drewN ?_ _ | refine blk_drew ?_ | refine blk_alloc ?_ _)); exact BK115.out) hb)
                                    have n4_ := Aside0.mk (blk_below (g := gb122) (o := .cells #[.bool a0_0, .bool a0_1, .bool x123002_18, .bool x123003_32, .int .u32 a0_4, .int .u32 a0_5, .int .i64 a0_6] 24 (0, 0)) (by (with_reducible repeat (first | refine blk_drewN ?_ _ | refine blk_drew ?_ | refine blk_alloc ?_ _)); exact BK122.out) hb)
                                    have n5_ := Aside0.mk (blk_below (g := gb127) (o := .cells #[.bool ((rd_T24 y123 x52_4).f0), .bool ((rd_T24 y123 x52_4).f1), .bool ((rd_T24 y123 x52_4).f2), .bool ((rd_T24 y123 x52_4).f3), .int .u32 ((rd_T24 y123 x52_4).f4), .int .u32 ((rd_T24 y123 x52_4).f5), .int .i64 ((rd_T24 y123 x52_4).f6)] 24 (0, 0)) (by (with_reducible repeat (first | refine blk_drewN ?_ _ | refine blk_drew ?_ | refine blk_alloc ?_ _)); exact BK127.out) hb)
                                    have n6_ := Aside0.mk (below_step (by repeat (first | (with_reducible first | exact HB.out | apply below_alloc | apply pw_below_drewN | apply below_drew1 | refine below_set ?_ GE115.out | refine below_set ?_ GE122.out | refine below_set ?_ GE127.out) | exact HB.out)) hb)
                                    clear HO_11
                                    clear HO_50
                                    clear HO136
                                    clear BK115
                                    clear BK122
                                    clear BK127
                                    clear HB
                                    have HO_11 := n0_
                                    have HO_50 := n1_
                                    have HO136 := n2_
                                    have BK115 := n3_
                                    have BK122 := n4_
                                    have BK127 := n5_
                                    have HB := n6_
                                    clear n0_ n1_ n2_ n3_ n4_ n5_ n6_
                                    (try clear hb)
                                    (try clear hb2)
                                    (try clear hk)
                                    (try clear hi)
                                    refine hK.out _ _ ⟨(blk_cell BK127.out 0).trans rfl, (blk_cell BK127.out 1).trans rfl, (blk_cell BK127.out 2).trans rfl, (blk_cell BK127.out 3).trans rfl, (blk_cell BK127.out 4).trans rfl, (blk_cell BK127.out 5).trans rfl, (blk_cell BK127.out 6).trans rfl⟩ (fun hHeld => ?_)
                                    clear hK K
                                    refine norm_ (a' := ?_) ?_ ?_
                                    rotate_left
                                    · show Act.put _ (some 63) _ = _
                                      simp only [Act.put, List.setIfInBounds_toArray, List.set_cons_zero, List.set_cons_succ, i64_w, i32_w]
                                      rfl
                                    refine pure_ (i := 7) (N := some 56) (v := ?_) (a' := ?_) #[true, true, true, true, true, true, true, true, false, false, false, false, false, false] rfl rfl (any_of HT_.out (by kernel_rfl)) (fun _ _ _ h => h) (Or.inl ⟨by rfl, ?_⟩) ?_ ?_
                                    rotate_left
                                    · intro w'
                                      go_simp
                                      with_reducible rfl
                                    rotate_left
                                    · simp only [Act.put, List.setIfInBounds_toArray, List.set_cons_zero, List.set_cons_succ, i64_w, i32_w]
                                      rfl
                                    refine pure_ (i := 8) (N := some 64) (v := ?_) (a' := ?_) #[true, true, true, true, true, true, true, true, true, false, false, false, false, false] rfl rfl (any_of HT_.out (by kernel_rfl)) (fun _ _ _ h => h) (Or.inl ⟨by rfl, ?_⟩) ?_ ?_
                                    rotate_left
                                    · intro w'
                                      go_simp
                                      with_reducible rfl
                                    rotate_left
                                    · simp only [Act.put, List.setIfInBounds_toArray, List.set_cons_zero, List.set_cons_succ, i64_w, i32_w]
                                      rfl
                                    refine pure_ (i := 9) (N := some 65) (v := ?_) (a' := ?_) #[true, true, true, true, true, true, true, true, true, true, false, false, false, false] rfl rfl (any_of HT_.out (by kernel_rfl)) (fun _ _ _ h => h) (Or.inl ⟨by rfl, ?_⟩) ?_ ?_
                                    rotate_left
                                    · intro w'
                                      go_simp
                                      with_reducible rfl
                                    rotate_left
                                    · simp only [Act.put, List.setIfInBounds_toArray, List.set_cons_zero, List.set_cons_succ, i64_w, i32_w]
                                      rfl
                                    refine pure_ (i := 10) (N := some 66) (v := ?_) (a' := ?_) #[true, true, true, true, true, true, true, true, true, true, true, false, false, false] rfl rfl (any_of HT_.out (by kernel_rfl)) (fun _ _ _ h => h) (Or.inl ⟨by rfl, ?_⟩) ?_ ?_
                                    rotate_left
                                    · intro w'
                                      go_simp
                                      with_reducible rfl
                                    rotate_left
                                    · simp only [Act.put, List.setIfInBounds_toArray, List.set_cons_zero, List.set_cons_succ, i64_w, i32_w]
                                      rfl
                                    refine pure_ (i := 11) (N := some 15) (v := ?_) (a' := ?_) #[true, true, true, true, true, true, true, true, true, true, true, true, false, false] rfl rfl (any_of HT_.out (by kernel_rfl)) (fun _ _ _ h => h) (Or.inl ⟨by rfl, ?_⟩) ?_ ?_
                                    rotate_left
                                    · intro w'
                                      go_simp
                                      with_reducible rfl
                                    rotate_left
                                    · simp only [Act.put, List.setIfInBounds_toArray, List.set_cons_zero, List.set_cons_succ, i64_w, i32_w]
                                      rfl
                                    refine pure_ (i := 12) (N := some 16) (v := ?_) (a' := ?_) #[true, true, true, true, true, true, true, true, true, true, true, true, true, false] rfl rfl (any_of HT_.out (by kernel_rfl)) (fun _ _ _ h => h) (Or.inl ⟨by rfl, ?_⟩) ?_ ?_
                                    rotate_left
                                    · intro w'
                                      go_simp
                                      with_reducible rfl
                                    rotate_left
                                    · simp only [Act.put, List.setIfInBounds_toArray, List.set_cons_zero, List.set_cons_succ, i64_w, i32_w]
                                      rfl
                                    refine pure_ (i := 13) (N := some 17) (v := ?_) (a' := ?_) #[true, true, true, true, true, true, true, true, true, true, true, true, true, true] rfl rfl (any_of HT_.out (by kernel_rfl)) (fun _ _ _ h => h) (Or.inl ⟨by rfl, ?_⟩) ?_ ?_
                                    rotate_left
                                    · intro w'
                                      go_simp
                                      with_reducible rfl
                                    rotate_left
                                    · simp only [Act.put, List.setIfInBounds_toArray, List.set_cons_zero, List.set_cons_succ, i64_w, i32_w]
                                      rfl
                                    refine done_ (done_of HT_.out (by kernel_rfl)) ?_
                                    try go_wp2
                                    go_ret
                                    exact ⟨by first | rfl | (simp [errW_none, errW_some] <;> rfl) | (simp [*, errW_none, errW_some] <;> rfl), by repeat (first | (with_reducible first | exact HB.out | apply below_alloc | apply pw_below_drewN | apply below_drew1 | refine below_set ?_ GE115.out | refine below_set ?_ GE122.out | refine below_set ?_ GE127.out) | exact HB.out)⟩
                                · rw [if_neg c54] at H
                                  have c54b0 : (t137 == a1) = false := beq_eq_false_iff_ne.mpr c54
                                  have c54b1 : (t137 != a1) = true := bne_iff_ne.mpr c54
                                  obtain rfl := Option.some.inj H
                                  have p126 : 0 ≤ (x52_4 : Int) := of_decide_eq_true (by first | (with_reducible assumption) | assumption)
                                  have q126 : x52_4 < (y123.length : Int) := of_decide_eq_true (by first | (with_reducible assumption) | assumption)
                                  obtain ⟨ad126, e126, hx126_0, hx126_1, hx126_2, hx126_3, hx126_4, hx126_5, hx126_6⟩ := at_T24 (Kd.R_reads' HO_50.out).2.2 x52_4 p126 q126
                                  cases e126
                                  replace p126 := eq_true p126
                                  replace q126 := eq_true q126
                                  try go_wp2_with (first | ((with_reducible refine gate_dst (N := 14) rfl ?_); (try (refine gate_guard (by rfl) ?_; dsimp only)); refine box_event ?hg (N := 14) ?hd (cs := #[.bool false, .bool false, .bool false, .bool false, .int .u32 0, .int .u32 0, .int .i64 0]) (t := 24) ?hr ?_; (case hd => rfl); (case hg => rfl); (case hr => first | (go_simp; done) | (go_simp; rfl)); intro gb127 hg w82 hbox hb; have n0_ := Aside0.mk (Kd.Q_below (by (with_reducible repeat (first | apply Kd.Q_alloc | apply Kd.Q_drewN | apply Kd.Q_drew)); exact HO_11.out) hb); have n1_ := Aside0.mk (Kd.R_below (Kd.R_elderB (by (with_reducible repeat (first | apply Kd.R_alloc | apply Kd.R_drewN | apply Kd.R_drew)); exact HO_50.out) gb127 (Nat.le_of_eq hg.symm)) hb); have n2_ := Aside0.mk (blk_below (g := gb115) (o := .cells #[.bool a0_0, .bool a0_1, .bool a0_2, .bool a0_3, .int .u32 a0_4, .int .u32 a0_5, .int .i64 a0_6] 24 (0, 0)) (by (with_reducible repeat (first | refine blk_drewN ?_ _ | refine blk_drew ?_ | refine blk_alloc ?_ _)); exact BK115.out) hb); have n3_ := Aside0.mk (blk_below (g := gb122) (o := .cells #[.bool a0_0, .bool a0_1, .bool x123002_18, .bool x123003_32, .int .u32 a0_4, .int .u32 a0_5, .int .i64 a0_6] 24 (0, 0)) (by (with_reducible repeat (first | refine blk_drewN ?_ _ | refine blk_drew ?_ | refine blk_alloc ?_ _)); exact BK122.out) hb); have n4_ := Aside0.mk (below_step (by repeat (first | (with_reducible first | exact HB.out | apply below_alloc | apply pw_below_drewN | apply below_drew1 | refine below_set ?_ GE115.out | refine below_set ?_ GE122.out) | exact HB.out)) hb); have n5_ := Aside0.mk (hbox); have n6_ := Aside0.mk ((by rw [hg]; exact (below_size (by repeat (first | (with_reducible first | exact HB.out | apply below_alloc | apply pw_below_drewN | apply below_drew1 | refine below_set ?_ GE115.out | refine below_set ?_ GE122.out) | exact HB.out))) : w.heap.size ≤ gb127)); have n7_ := Aside0.mk ((by rw [hg]; exact (below_size (by repeat (first | (with_reducible first | exact HB.out | apply below_alloc | apply pw_below_drewN | apply below_drew1 | refine below_set ?_ GE115.out | refine below_set ?_ GE122.out) | exact HB.out))) : w.heap.size ≤ gb127)); have n8_ := Aside0.mk ((by rw [hg]; exact Nat.ne_of_lt (blk_lt (g := gb115) (o := .cells #[.bool a0_0, .bool a0_1, .bool a0_2, .bool a0_3, .int .u32 a0_4, .int .u32 a0_5, .int .i64 a0_6] 24 (0, 0)) (by (with_reducible repeat (first | refine blk_drewN ?_ _ | refine blk_drew ?_ | refine blk_alloc ?_ _)); exact BK115.out)) : gb115 ≠ gb127)); have n9_ := Aside0.mk ((by rw [hg]; exact Nat.ne_of_gt (blk_lt (g := gb115) (o := .cells #[.bool a0_0, .bool a0_1, .bool a0_2, .bool a0_3, .int .u32 a0_4, .int .u32 a0_5, .int .i64 a0_6] 24 (0, 0)) (by (with_reducible repeat (first | refine blk_drewN ?_ _ | refine blk_drew ?_ | refine blk_alloc ?_ _)); exact BK115.out)) : gb127 ≠ gb115)); have n10_ := Aside0.mk ((by rw [hg]; exact Nat.ne_of_lt (blk_lt (g := gb122) (o := .cells #[.bool a0_0, .bool a0_1, .bool x123002_18, .bool x123003_32, .int .u32 a0_4, .int .u32 a0_5, .int .i64 a0_6] 24 (0, 0)) (by (with_reducible repeat (first | refine blk_drewN ?_ _ | refine blk_drew ?_ | refine blk_alloc ?_ _)); exact BK122.out)) : gb122 ≠ gb127)); have n11_ := Aside0.mk ((by rw [hg]; exact Nat.ne_of_gt (blk_lt (g := gb122) (o := .cells #[.bool a0_0, .bool a0_1, .bool x123002_18, .bool x123003_32, .int .u32 a0_4, .int .u32 a0_5, .int .i64 a0_6] 24 (0, 0)) (by (with_reducible repeat (first | refine blk_drewN ?_ _ | refine blk_drew ?_ | refine blk_alloc ?_ _)); exact BK122.out)) : gb127 ≠ gb122)); clear HO_11; clear HO_50; clear BK115; clear BK122; clear HB; have HO_11 := n0_; have HO_50 := n1_; have BK115 := n2_; have BK122 := n3_; have HB := n4_; have BK127 := n5_; have GW127 := n6_; have GE127 := n7_; have NB115_127 := n8_; have NB127_115 := n9_; have NB122_127 := n10_; have NB127_122 := n11_; clear n0_ n1_ n2_ n3_ n4_ n5_ n6_ n7_ n8_ n9_ n10_ n11_; clear hb hbox hg; have hnb83 := NB127_115.out; have hnc83 := NB115_127.out; have hnb84 := NB127_122.out; have hnc84 := NB122_127.out; have hcz85_0 : w82.cell? ⟨gb127, 0, none⟩ = some (.bool false) := (blk_cell BK127.out 0).trans rfl; have hcz85_1 : w82.cell? ⟨gb127, 1, none⟩ = some (.bool false) := (blk_cell BK127.out 1).trans rfl; have hcz85_2 : w82.cell? ⟨gb127, 2, none⟩ = some (.bool false) := (blk_cell BK127.out 2).trans rfl; have hcz85_3 : w82.cell? ⟨gb127, 3, none⟩ = some (.bool false) := (blk_cell BK127.out 3).trans rfl; have hcz85_4 : w82.cell? ⟨gb127, 4, none⟩ = some (.int .u32 0) := (blk_cell BK127.out 4).trans rfl; have hcz85_5 : w82.cell? ⟨gb127, 5, none⟩ = some (.int .u32 0) := (blk_cell BK127.out 5).trans rfl; have hcz85_6 : w82.cell? ⟨gb127, 6, none⟩ = some (.int .i64 0) := (blk_cell BK127.out 6).trans rfl; have hfz85_0 := blk_frozen BK127.out 0; have hfz85_1 := blk_frozen BK127.out 1; have hfz85_2 := blk_frozen BK127.out 2; have hfz85_3 := blk_frozen BK127.out 3; have hfz85_4 := blk_frozen BK127.out 4; have hfz85_5 := blk_frozen BK127.out 5; have hfz85_6 := blk_frozen BK127.out 6))
                                  have n0_ : Aside0 (Kd.Q (Kd.int .u8) 5 (((((((w82.setCell ⟨gb127, 0, none⟩ (.bool ((rd_T24 y123 x52_4).f0))).setCell ⟨gb127, 1, none⟩ (.bool ((rd_T24 y123 x52_4).f1))).setCell ⟨gb127, 2, none⟩ (.bool ((rd_T24 y123 x52_4).f2))).setCell ⟨gb127, 3, none⟩ (.bool ((rd_T24 y123 x52_4).f3))).setCell ⟨gb127, 4, none⟩ (.int .u32 ((rd_T24 y123 x52_4).f4))).setCell ⟨gb127, 5, none⟩ (.int .u32 ((rd_T24 y123 x52_4).f5))).setCell ⟨gb127, 6, none⟩ (.int .i64 ((rd_T24 y123 x52_4).f6))) w.heap.size (fun _ => True) v120 t119) := ⟨by (with_reducible repeat (first | apply Kd.Q_alloc | apply Kd.Q_drewN | apply Kd.Q_drew)); exact Kd.Q_mono (Kd.Q_far (p := ⟨gb127, 6, none⟩) (Kd.Q_far (p := ⟨gb127, 5, none⟩) (Kd.Q_far (p := ⟨gb127, 4, none⟩) (Kd.Q_far (p := ⟨gb127, 3, none⟩) (Kd.Q_far (p := ⟨gb127, 2, none⟩) (Kd.Q_far (p := ⟨gb127, 1, none⟩) (Kd.Q_far (p := ⟨gb127, 0, none⟩) (Kd.Q_types HO_11.out BK127.out (by decide)) (fun _ hk => hk.2) (.bool ((rd_T24 y123 x52_4).f0))) (fun _ hk => hk.2) (.bool ((rd_T24 y123 x52_4).f1))) (fun _ hk => hk.2) (.bool ((rd_T24 y123 x52_4).f2))) (fun _ hk => hk.2) (.bool ((rd_T24 y123 x52_4).f3))) (fun _ hk => hk.2) (.int .u32 ((rd_T24 y123 x52_4).f4))) (fun _ hk => hk.2) (.int .u32 ((rd_T24 y123 x52_4).f5))) (fun _ hk => hk.2) (.int .i64 ((rd_T24 y123 x52_4).f6))) (fun _ hk => trivial)⟩
                                  have n1_ : Aside0 (Kd.R k24 24 (((((((w82.setCell ⟨gb127, 0, none⟩ (.bool ((rd_T24 y123 x52_4).f0))).setCell ⟨gb127, 1, none⟩ (.bool ((rd_T24 y123 x52_4).f1))).setCell ⟨gb127, 2, none⟩ (.bool ((rd_T24 y123 x52_4).f2))).setCell ⟨gb127, 3, none⟩ (.bool ((rd_T24 y123 x52_4).f3))).setCell ⟨gb127, 4, none⟩ (.int .u32 ((rd_T24 y123 x52_4).f4))).setCell ⟨gb127, 5, none⟩ (.int .u32 ((rd_T24 y123 x52_4).f5))).setCell ⟨gb127, 6, none⟩ (.int .i64 ((rd_T24 y123 x52_4).f6))) w.heap.size (fun k_ => k_ ≠ gb115 ∧ k_ ≠ gb122 ∧ k_ ≠ gb127) (.slice (some ad126) y123.length co46) y123) := ⟨by (with_reducible repeat (first | apply Kd.R_alloc | apply Kd.R_drewN | apply Kd.R_drew)); exact Kd.R_mono (Kd.R_far (p := ⟨gb127, 6, none⟩) (Kd.R_far (p := ⟨gb127, 5, none⟩) (Kd.R_far (p := ⟨gb127, 4, none⟩) (Kd.R_far (p := ⟨gb127, 3, none⟩) (Kd.R_far (p := ⟨gb127, 2, none⟩) (Kd.R_far (p := ⟨gb127, 1, none⟩) (Kd.R_far (p := ⟨gb127, 0, none⟩) (Kd.R_mono HO_50.out (fun k_ hk => (⟨hk, hk.2⟩ : _ ∧ k_ ≠ gb127))) (fun _ hk => hk.2) (.bool ((rd_T24 y123 x52_4).f0))) (fun _ hk => hk.2) (.bool ((rd_T24 y123 x52_4).f1))) (fun _ hk => hk.2) (.bool ((rd_T24 y123 x52_4).f2))) (fun _ hk => hk.2) (.bool ((rd_T24 y123 x52_4).f3))) (fun _ hk => hk.2) (.int .u32 ((rd_T24 y123 x52_4).f4))) (fun _ hk => hk.2) (.int .u32 ((rd_T24 y123 x52_4).f5))) (fun _ hk => hk.2) (.int .i64 ((rd_T24 y123 x52_4).f6))) (fun _ hk => ⟨hk.1.1.1, ⟨hk.1.1.2, hk.1.2⟩⟩)⟩
                                  have n2_ : Aside0 ((((((((w82.setCell ⟨gb127, 0, none⟩ (.bool ((rd_T24 y123 x52_4).f0))).setCell ⟨gb127, 1, none⟩ (.bool ((rd_T24 y123 x52_4).f1))).setCell ⟨gb127, 2, none⟩ (.bool ((rd_T24 y123 x52_4).f2))).setCell ⟨gb127, 3, none⟩ (.bool ((rd_T24 y123 x52_4).f3))).setCell ⟨gb127, 4, none⟩ (.int .u32 ((rd_T24 y123 x52_4).f4))).setCell ⟨gb127, 5, none⟩ (.int .u32 ((rd_T24 y123 x52_4).f5))).setCell ⟨gb127, 6, none⟩ (.int .i64 ((rd_T24 y123 x52_4).f6))).heap[gb115]? = some (.cells #[.bool a0_0, .bool a0_1, .bool a0_2, .bool a0_3, .int .u32 a0_4, .int .u32 a0_5, .int .i64 a0_6] 24 (0, 0))) := ⟨by (with_reducible repeat (first | refine blk_drewN ?_ _ | refine blk_drew ?_ | refine blk_alloc ?_ _)); refine blk_far ?_ NB115_127.out _; (with_reducible repeat (first | refine blk_drewN ?_ _ | refine blk_drew ?_ | refine blk_alloc ?_ _)); refine blk_far ?_ NB115_127.out _; (with_reducible repeat (first | refine blk_drewN ?_ _ | refine blk_drew ?_ | refine blk_alloc ?_ _)); refine blk_far ?_ NB115_127.out _; (with_reducible repeat (first | refine blk_drewN ?_ _ | refine blk_drew ?_ | refine blk_alloc ?_ _)); refine blk_far ?_ NB115_127.out _; (with_reducible repeat (first | refine blk_drewN ?_ _ | refine blk_drew ?_ | refine blk_alloc ?_ _)); refine blk_far ?_ NB115_127.out _; (with_reducible repeat (first | refine blk_drewN ?_ _ | refine blk_drew ?_ | refine blk_alloc ?_ _)); refine blk_far ?_ NB115_127.out _; (with_reducible repeat (first | refine blk_drewN ?_ _ | refine blk_drew ?_ | refine blk_alloc ?_ _)); refine blk_far ?_ NB115_127.out _; (with_reducible repeat (first | refine blk_drewN ?_ _ | refine blk_drew ?_ | refine blk_alloc ?_ _)); exact BK115.out⟩
                                  have n3_ : Aside0 ((((((((w82.setCell ⟨gb127, 0, none⟩ (.bool ((rd_T24 y123 x52_4).f0))).setCell ⟨gb127, 1, none⟩ (.bool ((rd_T24 y123 x52_4).f1))).setCell ⟨gb127, 2, none⟩ (.bool ((rd_T24 y123 x52_4).f2))).setCell ⟨gb127, 3, none⟩ (.bool ((rd_T24 y123 x52_4).f3))).setCell ⟨gb127, 4, none⟩ (.int .u32 ((rd_T24 y123 x52_4).f4))).setCell ⟨gb127, 5, none⟩ (.int .u32 ((rd_T24 y123 x52_4).f5))).setCell ⟨gb127, 6, none⟩ (.int .i64 ((rd_T24 y123 x52_4).f6))).heap[gb122]? = some (.cells #[.bool a0_0, .bool a0_1, .bool x123002_18, .bool x123003_32, .int .u32 a0_4, .int .u32 a0_5, .int .i64 a0_6] 24 (0, 0))) := ⟨by (with_reducible repeat (first | refine blk_drewN ?_ _ | refine blk_drew ?_ | refine blk_alloc ?_ _)); refine blk_far ?_ NB122_127.out _; (with_reducible repeat (first | refine blk_drewN ?_ _ | refine blk_drew ?_ | refine blk_alloc ?_ _)); refine blk_far ?_ NB122_127.out _; (with_reducible repeat (first | refine blk_drewN ?_ _ | refine blk_drew ?_ | refine blk_alloc ?_ _)); refine blk_far ?_ NB122_127.out _; (with_reducible repeat (first | refine blk_drewN ?_ _ | refine blk_drew ?_ | refine blk_alloc ?_ _)); refine blk_far ?_ NB122_127.out _; (with_reducible repeat (first | refine blk_drewN ?_ _ | refine blk_drew ?_ | refine blk_alloc ?_ _)); refine blk_far ?_ NB122_127.out _; (with_reducible repeat (first | refine blk_drewN ?_ _ | refine blk_drew ?_ | refine blk_alloc ?_ _)); refine blk_far ?_ NB122_127.out _; (with_reducible repeat (first | refine blk_drewN ?_ _ | refine blk_drew ?_ | refine blk_alloc ?_ _)); refine blk_far ?_ NB122_127.out _; (with_reducible repeat (first | refine blk_drewN ?_ _ | refine blk_drew ?_ | refine blk_alloc ?_ _)); exact BK122.out⟩
                                  have n4_ : Aside0 ((((((((w82.setCell ⟨gb127, 0, none⟩ (.bool ((rd_T24 y123 x52_4).f0))).setCell ⟨gb127, 1, none⟩ (.bool ((rd_T24 y123 x52_4).f1))).setCell ⟨gb127, 2, none⟩ (.bool ((rd_T24 y123 x52_4).f2))).setCell ⟨gb127, 3, none⟩ (.bool ((rd_T24 y123 x52_4).f3))).setCell ⟨gb127, 4, none⟩ (.int .u32 ((rd_T24 y123 x52_4).f4))).setCell ⟨gb127, 5, none⟩ (.int .u32 ((rd_T24 y123 x52_4).f5))).setCell ⟨gb127, 6, none⟩ (.int .i64 ((rd_T24 y123 x52_4).f6))).heap[gb127]? = some (.cells #[.bool ((rd_T24 y123 x52_4).f0), .bool ((rd_T24 y123 x52_4).f1), .bool ((rd_T24 y123 x52_4).f2), .bool ((rd_T24 y123 x52_4).f3), .int .u32 ((rd_T24 y123 x52_4).f4), .int .u32 ((rd_T24 y123 x52_4).f5), .int .i64 ((rd_T24 y123 x52_4).f6)] 24 (0, 0))) := ⟨by (with_reducible repeat (first | refine blk_drewN ?_ _ | refine blk_drew ?_ | refine blk_alloc ?_ _)); refine blk_put (cs := #[.bool ((rd_T24 y123 x52_4).f0), .bool ((rd_T24 y123 x52_4).f1), .bool ((rd_T24 y123 x52_4).f2), .bool ((rd_T24 y123 x52_4).f3), .int .u32 ((rd_T24 y123 x52_4).f4), .int .u32 ((rd_T24 y123 x52_4).f5), .int .i64 0]) ?_ 6 _ rfl; (with_reducible repeat (first | refine blk_drewN ?_ _ | refine blk_drew ?_ | refine blk_alloc ?_ _)); refine blk_put (cs := #[.bool ((rd_T24 y123 x52_4).f0), .bool ((rd_T24 y123 x52_4).f1), .bool ((rd_T24 y123 x52_4).f2), .bool ((rd_T24 y123 x52_4).f3), .int .u32 ((rd_T24 y123 x52_4).f4), .int .u32 0, .int .i64 0]) ?_ 5 _ rfl; (with_reducible repeat (first | refine blk_drewN ?_ _ | refine blk_drew ?_ | refine blk_alloc ?_ _)); refine blk_put (cs := #[.bool ((rd_T24 y123 x52_4).f0), .bool ((rd_T24 y123 x52_4).f1), .bool ((rd_T24 y123 x52_4).f2), .bool ((rd_T24 y123 x52_4).f3), .int .u32 0, .int .u32 0, .int .i64 0]) ?_ 4 _ rfl; (with_reducible repeat (first | refine blk_drewN ?_ _ | refine blk_drew ?_ | refine blk_alloc ?_ _)); refine blk_put (cs := #[.bool ((rd_T24 y123 x52_4).f0), .bool ((rd_T24 y123 x52_4).f1), .bool ((rd_T24 y123 x52_4).f2), .bool false, .int .u32 0, .int .u32 0, .int .i64 0]) ?_ 3 _ rfl; (with_reducible repeat (first | refine blk_drewN ?_ _ | refine blk_drew ?_ | refine blk_alloc ?_ _)); refine blk_put (cs := #[.bool ((rd_T24 y123 x52_4).f0), .bool ((rd_T24 y123 x52_4).f1), .bool false, .bool false, .int .u32 0, .int .u32 0, .int .i64 0]) ?_ 2 _ rfl; (with_reducible repeat (first | refine blk_drewN ?_ _ | refine blk_drew ?_ | refine blk_alloc ?_ _)); refine blk_put (cs := #[.bool ((rd_T24 y123 x52_4).f0), .bool false, .bool false, .bool false, .int .u32 0, .int .u32 0, .int .i64 0]) ?_ 1 _ rfl; (with_reducible repeat (first | refine blk_drewN ?_ _ | refine blk_drew ?_ | refine blk_alloc ?_ _)); refine blk_put (cs := #[.bool false, .bool false, .bool false, .bool false, .int .u32 0, .int .u32 0, .int .i64 0]) ?_ 0 _ rfl; (with_reducible repeat (first | refine blk_drewN ?_ _ | refine blk_drew ?_ | refine blk_alloc ?_ _)); exact BK127.out⟩
                                  have n5_ : Aside0 (Below w.heap.size w (((((((w82.setCell ⟨gb127, 0, none⟩ (.bool ((rd_T24 y123 x52_4).f0))).setCell ⟨gb127, 1, none⟩ (.bool ((rd_T24 y123 x52_4).f1))).setCell ⟨gb127, 2, none⟩ (.bool ((rd_T24 y123 x52_4).f2))).setCell ⟨gb127, 3, none⟩ (.bool ((rd_T24 y123 x52_4).f3))).setCell ⟨gb127, 4, none⟩ (.int .u32 ((rd_T24 y123 x52_4).f4))).setCell ⟨gb127, 5, none⟩ (.int .u32 ((rd_T24 y123 x52_4).f5))).setCell ⟨gb127, 6, none⟩ (.int .i64 ((rd_T24 y123 x52_4).f6)))) := ⟨by repeat (first | (with_reducible first | exact HB.out | apply below_alloc | apply pw_below_drewN | apply below_drew1 | refine below_set ?_ GE115.out | refine below_set ?_ GE122.out | refine below_set ?_ GE127.out) | exact HB.out)⟩
                                  (try clear HO_11)
                                  (try clear HO_50)
                                  (try clear BK115)
                                  (try clear BK122)
                                  (try clear BK127)
                                  (try clear HB)
                                  generalize (((((((w82.setCell ⟨gb127, 0, none⟩ (.bool ((rd_T24 y123 x52_4).f0))).setCell ⟨gb127, 1, none⟩ (.bool ((rd_T24 y123 x52_4).f1))).setCell ⟨gb127, 2, none⟩ (.bool ((rd_T24 y123 x52_4).f2))).setCell ⟨gb127, 3, none⟩ (.bool ((rd_T24 y123 x52_4).f3))).setCell ⟨gb127, 4, none⟩ (.int .u32 ((rd_T24 y123 x52_4).f4))).setCell ⟨gb127, 5, none⟩ (.int .u32 ((rd_T24 y123 x52_4).f5))).setCell ⟨gb127, 6, none⟩ (.int .i64 ((rd_T24 y123 x52_4).f6))) = w86 at n0_ n1_ n2_ n3_ n4_ n5_ ⊢
                                  have HO_11 := n0_
                                  have HO_50 := n1_
                                  have BK115 := n2_
                                  have BK122 := n3_
                                  have BK127 := n4_
                                  have HB := n5_
                                  clear n0_ n1_ n2_ n3_ n4_ n5_
                                  have n0_ := Aside0.mk (Kd.Q_drew HO_11.out)
                                  have n1_ := Aside0.mk (Kd.R_drew HO_50.out)
                                  have n2_ := Aside0.mk (blk_drew BK115.out)
                                  have n3_ := Aside0.mk (blk_drew BK122.out)
                                  have n4_ := Aside0.mk (blk_drew BK127.out)
                                  have n5_ := Aside0.mk (below_drew1 HB.out)
                                  clear HO_11
                                  clear HO_50
                                  clear BK115
                                  clear BK122
                                  clear BK127
                                  clear HB
                                  have HO_11 := n0_
                                  have HO_50 := n1_
                                  have BK115 := n2_
                                  have BK122 := n3_
                                  have BK127 := n4_
                                  have HB := n5_
                                  clear n0_ n1_ n2_ n3_ n4_ n5_
                                  refine start_ (n := 14) (S := fun w' => w'.cell? ⟨gb127, 0, none⟩ = some (.bool ((rd_T24 y123 x52_4).f0)) ∧ w'.cell? ⟨gb127, 1, none⟩ = some (.bool ((rd_T24 y123 x52_4).f1)) ∧ w'.cell? ⟨gb127, 2, none⟩ = some (.bool ((rd_T24 y123 x52_4).f2)) ∧ w'.cell? ⟨gb127, 3, none⟩ = some (.bool ((rd_T24 y123 x52_4).f3)) ∧ w'.cell? ⟨gb127, 4, none⟩ = some (.int .u32 ((rd_T24 y123 x52_4).f4)) ∧ w'.cell? ⟨gb127, 5, none⟩ = some (.int .u32 ((rd_T24 y123 x52_4).f5)) ∧ w'.cell? ⟨gb127, 6, none⟩ = some (.int .i64 ((rd_T24 y123 x52_4).f6))) (ds := []) #[false, false, false, false, false, false, false, false, false, false, false, false, false, false] (by kernel_rfl) rfl rfl ⟨(blk_cell BK127.out 0).trans rfl, (blk_cell BK127.out 1).trans rfl, (blk_cell BK127.out 2).trans rfl, (blk_cell BK127.out 3).trans rfl, (blk_cell BK127.out 4).trans rfl, (blk_cell BK127.out 5).trans rfl, (blk_cell BK127.out 6).trans rfl⟩ (fun hHeld => ?_); refine with_tabW marlinelaw10_HeadBack.tab10 marlinelaw10_HeadBack.bits10 (fun HT_ HW_ => ?_)
                                  generalize w86.drew = w87 at HO_11 HO_50 BK115 BK122 BK127 HB hHeld ⊢
                                  refine pure_ (i := 2) (N := some 59) (v := ?_) (a' := ?_) #[false, false, true, false, false, false, false, false, false, false, false, false, false, false] rfl rfl (any_of HT_.out (by kernel_rfl)) (fun _ _ _ h => h) (Or.inl ⟨by rfl, ?_⟩) ?_ ?_
                                  rotate_left
                                  · intro w'
                                    go_simp
                                    with_reducible rfl
                                  rotate_left
                                  · simp only [Act.put, List.setIfInBounds_toArray, List.set_cons_zero, List.set_cons_succ, i64_w, i32_w]
                                    rfl
                                  refine pure_ (i := 4) (N := some 61) (v := ?_) (a' := ?_) #[false, false, true, false, true, false, false, false, false, false, false, false, false, false] rfl rfl (any_of HT_.out (by kernel_rfl)) (fun _ _ _ h => h) (Or.inl ⟨by rfl, ?_⟩) ?_ ?_
                                  rotate_left
                                  · intro w'
                                    go_simp
                                    with_reducible rfl
                                  rotate_left
                                  · simp only [Act.put, List.setIfInBounds_toArray, List.set_cons_zero, List.set_cons_succ, i64_w, i32_w]
                                    rfl
                                  refine take_ (i := 0) (N := some 57) (v := ?_) (a' := ?_) #[true, false, true, false, true, false, false, false, false, false, false, false, false, false] rfl rfl (take_ofW HT_.out HW_.out (by kernel_rfl)) (fun _ _ _ h => h) (Or.inl ⟨by rfl, ?_⟩) hHeld ?_ ?_
                                  rotate_left
                                  · rintro w' ⟨s0, s1, s2, s3, s4, s5, s6⟩
                                    go_simp
                                    with_reducible rfl
                                  rotate_left
                                  · simp only [Act.put, List.setIfInBounds_toArray, List.set_cons_zero, List.set_cons_succ, i64_w, i32_w]
                                    rfl
                                  refine one_ (i := 1) (N := some 58) #[true, true, true, false, true, false, false, false, false, false, false, false, false, false] rfl rfl (one_of HT_.out (by kernel_rfl)) (by decide) (fun K hK => ?_)
                                  refine Kd.R_lit_step (Kd.int .u8) _ 5 ?hg (N := 58) ?hd (xs := ([] : List Int)) (inner := []) (ok := fun _ => True) (okp := fun _ => True) ?hr ?hp (fun _ hk => hk) trivial (Below.refl _ _) (Nat.le_refl _) (by simp) ?_; (case hd => rfl); (case hg => rfl); (case hr => first | (go_simp; done) | (go_simp; rfl)); (case hp => exact (Reps.none _ _))
                                  intro v129 w88 ho89 hb hg_ hnew_
                                  clear hg_ hnew_
                                  (first | rw [← Ny128.out] at ho89 | (simp only [Int.reduceToNat] at ho89; rw [← Ny128.out] at ho89))
                                  have n0_ := Aside0.mk (Kd.Q_elder' (by (with_reducible repeat (first | apply Kd.Q_alloc | apply Kd.Q_drewN | apply Kd.Q_drew)); exact HO_11.out) (Kd.R_base ho89) hb)
                                  have n1_ := Aside0.mk (Kd.R_below (by (with_reducible repeat (first | apply Kd.R_alloc | apply Kd.R_drewN | apply Kd.R_drew)); exact HO_50.out) hb)
                                  have n2_ := Aside0.mk (Kd.R_lower (Kd.R_new' ho89 (Kd.Q_lt (by (with_reducible repeat (first | apply Kd.Q_alloc | apply Kd.Q_drewN | apply Kd.Q_drew)); exact HO_11.out))) (below_size (by repeat (first | (with_reducible first | exact HB.out | apply below_alloc | apply pw_below_drewN | apply below_drew1 | refine below_set ?_ GE115.out | refine below_set ?_ GE122.out | refine below_set ?_ GE127.out) | exact HB.out))))
                                  have n3_ := Aside0.mk (blk_below (g := gb115) (o := .cells #[.bool a0_0, .bool a0_1, .bool a0_2, .bool a0_3, .int .u32 a0_4, .int .u32 a0_5, .int .i64 a0_6] 24 (0, 0)) (by (with_reducible repeat (first | refine blk_drewN ?_ _ | refine blk_drew ?_ | refine blk_alloc ?_ _)); exact BK115.out) hb)
                                  have n4_ := Aside0.mk (blk_below (g := gb122) (o := .cells #[.bool a0_0, .bool a0_1, .bool x123002_18, .bool x123003_32, .int .u32 a0_4, .int .u32 a0_5, .int .i64 a0_6] 24 (0, 0)) (by (with_reducible repeat (first | refine blk_drewN ?_ _ | refine blk_drew ?_ | refine blk_alloc ?_ _)); exact BK122.out) hb)
                                  have n5_ := Aside0.mk (blk_below (g := gb127) (o := .cells #[.bool ((rd_T24 y123 x52_4).f0), .bool ((rd_T24 y123 x52_4).f1), .bool ((rd_T24 y123 x52_4).f2), .bool ((rd_T24 y123 x52_4).f3), .int .u32 ((rd_T24 y123 x52_4).f4), .int .u32 ((rd_T24 y123 x52_4).f5), .int .i64 ((rd_T24 y123 x52_4).f6)] 24 (0, 0)) (by (with_reducible repeat (first | refine blk_drewN ?_ _ | refine blk_drew ?_ | refine blk_alloc ?_ _)); exact BK127.out) hb)
                                  have n6_ := Aside0.mk (below_step (by repeat (first | (with_reducible first | exact HB.out | apply below_alloc | apply pw_below_drewN | apply below_drew1 | refine below_set ?_ GE115.out | refine below_set ?_ GE122.out | refine below_set ?_ GE127.out) | exact HB.out)) hb)
                                  clear HO_11
                                  clear HO_50
                                  clear BK115
                                  clear BK122
                                  clear BK127
                                  clear HB
                                  have HO_11 := n0_
                                  have HO_50 := n1_
                                  have HO130 := n2_
                                  have BK115 := n3_
                                  have BK122 := n4_
                                  have BK127 := n5_
                                  have HB := n6_
                                  clear n0_ n1_ n2_ n3_ n4_ n5_ n6_
                                  clear hb ho89
                                  obtain ⟨Ao91, co91, eo91, _⟩ := Kd.Q_slice HO_11.out
                                  (first | subst eo91 | (injection eo91 with f1_ f2_ f3_; have f4_ := f1_.symm; have f5_ := f3_.symm; clear f1_ f2_ f3_; subst f4_; subst f5_))
                                  refine hK.out _ _ ⟨(blk_cell BK127.out 0).trans rfl, (blk_cell BK127.out 1).trans rfl, (blk_cell BK127.out 2).trans rfl, (blk_cell BK127.out 3).trans rfl, (blk_cell BK127.out 4).trans rfl, (blk_cell BK127.out 5).trans rfl, (blk_cell BK127.out 6).trans rfl⟩ (fun hHeld => ?_)
                                  clear hK K
                                  refine norm_ (a' := ?_) ?_ ?_
                                  rotate_left
                                  · show Act.put _ (some 58) _ = _
                                    simp only [Act.put, List.setIfInBounds_toArray, List.set_cons_zero, List.set_cons_succ, i64_w, i32_w]
                                    rfl
                                  refine one_ (i := 3) (N := some 60) #[true, true, true, true, true, false, false, false, false, false, false, false, false, false] rfl rfl (one_of HT_.out (by kernel_rfl)) (by decide) (fun K hK => ?_)
                                  refine Kd.R_append_rows_step (Kd.int .u8) (w0 := w) w.heap.size (by rfl) (.tmp 58) (.tmp 59) 35 5 (.int .u8 0) 1 rfl Tryd.underlying35 info5 rfl (by decide) (by omega) v129 y128 t119 _ _ _ (fun k_ => some k_ ≠ (.slice Ao91 t119.length co91 : Value).ownBlock) (fun _ => False) rfl rfl ?aO ?aR (fun _ _ h => h) (fun _ h => h.elim) ?aF ?aB ?aS ?aL ?_
                                  (case aR => repeat (first | exact (Kd.Q_reads' HO_11.out).2.2 | (with_reducible refine Kd.C_alloc ?_ _) | (with_reducible refine Kd.C_drewN ?_ _) | (with_reducible refine Kd.C_drew ?_)))
                                  (case aB => exact (by repeat (first | (with_reducible first | exact HB.out | apply below_alloc | apply pw_below_drewN | apply below_drew1 | refine below_set ?_ GE115.out | refine below_set ?_ GE122.out | refine below_set ?_ GE127.out) | exact HB.out)))
                                  (case aF => exact (fun k_ hk => Kd.fresh' (Kd.Q_lt (by (with_reducible repeat (first | apply Kd.Q_alloc | apply Kd.Q_drewN | apply Kd.Q_drew)); exact HO_11.out)) k_ hk))
                                  (case aO => exact (by (with_reducible repeat (first | apply Kd.R_alloc | apply Kd.R_drewN | apply Kd.R_drew)); exact Kd.R_mono HO130.out (fun _ hk => hk.2)))
                                  (case aS => exact (below_size (by repeat (first | (with_reducible first | exact HB.out | apply below_alloc | apply pw_below_drewN | apply below_drew1 | refine below_set ?_ GE115.out | refine below_set ?_ GE122.out | refine below_set ?_ GE127.out) | exact HB.out))))
                                  (case aL => have := LMc50.out; omega)
                                  intro v132 w90 ho hb hg hat
                                  rw [← Ny131.out] at ho
                                  have n0_ := Aside0.mk (Kd.Q_after (ok := (fun _ => True)) (by (with_reducible repeat (first | apply Kd.Q_alloc | apply Kd.Q_drewN | apply Kd.Q_drew)); exact HO_11.out) hg hat)
                                  have n1_ := Aside0.mk (Kd.R_over' (by (with_reducible repeat (first | apply Kd.R_alloc | apply Kd.R_drewN | apply Kd.R_drew)); exact HO_50.out) (Kd.R_typed (by (with_reducible repeat (first | apply Kd.R_alloc | apply Kd.R_drewN | apply Kd.R_drew)); exact HO130.out)) (by decide) hg)
                                  have n2_ := Aside0.mk (blk_grown (g := gb115) (o := .cells #[.bool a0_0, .bool a0_1, .bool a0_2, .bool a0_3, .int .u32 a0_4, .int .u32 a0_5, .int .i64 a0_6] 24 (0, 0)) (by (with_reducible repeat (first | refine blk_drewN ?_ _ | refine blk_drew ?_ | refine blk_alloc ?_ _)); exact BK115.out) hg (Kd.R_ne HO130.out BK115.out (by decide)))
                                  have n3_ := Aside0.mk (blk_grown (g := gb122) (o := .cells #[.bool a0_0, .bool a0_1, .bool x123002_18, .bool x123003_32, .int .u32 a0_4, .int .u32 a0_5, .int .i64 a0_6] 24 (0, 0)) (by (with_reducible repeat (first | refine blk_drewN ?_ _ | refine blk_drew ?_ | refine blk_alloc ?_ _)); exact BK122.out) hg (Kd.R_ne HO130.out BK122.out (by decide)))
                                  have n4_ := Aside0.mk (blk_grown (g := gb127) (o := .cells #[.bool ((rd_T24 y123 x52_4).f0), .bool ((rd_T24 y123 x52_4).f1), .bool ((rd_T24 y123 x52_4).f2), .bool ((rd_T24 y123 x52_4).f3), .int .u32 ((rd_T24 y123 x52_4).f4), .int .u32 ((rd_T24 y123 x52_4).f5), .int .i64 ((rd_T24 y123 x52_4).f6)] 24 (0, 0)) (by (with_reducible repeat (first | refine blk_drewN ?_ _ | refine blk_drew ?_ | refine blk_alloc ?_ _)); exact BK127.out) hg (Kd.R_ne HO130.out BK127.out (by decide)))
                                  have n5_ := Aside0.mk (hb)
                                  have n6_ := Aside0.mk (ho)
                                  clear HO_11
                                  clear HO_50
                                  clear BK115
                                  clear BK122
                                  clear BK127
                                  clear HB
                                  clear HO130
                                  have HO_11 := n0_
                                  have HO_50 := n1_
                                  have BK115 := n2_
                                  have BK122 := n3_
                                  have BK127 := n4_
                                  have HB := n5_
                                  have HO133 := n6_
                                  clear n0_ n1_ n2_ n3_ n4_ n5_ n6_
                                  clear ho hb hg hat
                                  refine hK.out _ _ ⟨(blk_cell BK127.out 0).trans rfl, (blk_cell BK127.out 1).trans rfl, (blk_cell BK127.out 2).trans rfl, (blk_cell BK127.out 3).trans rfl, (blk_cell BK127.out 4).trans rfl, (blk_cell BK127.out 5).trans rfl, (blk_cell BK127.out 6).trans rfl⟩ (fun hHeld => ?_)
                                  clear hK K
                                  refine norm_ (a' := ?_) ?_ ?_
                                  rotate_left
                                  · show Act.put _ (some 60) _ = _
                                    simp only [Act.put, List.setIfInBounds_toArray, List.set_cons_zero, List.set_cons_succ, i64_w, i32_w]
                                    rfl
                                  refine one_ (i := 5) (N := some 62) #[true, true, true, true, true, true, false, false, false, false, false, false, false, false] rfl rfl (one_of HT_.out (by kernel_rfl)) (by decide) (fun K hK => ?_)
                                  refine Kd.R_append_rows_step (Kd.int .u8) (w0 := w) w.heap.size (by rfl) (.tmp 60) (.tmp 61) 35 5 (.int .u8 0) 1 rfl Tryd.underlying35 info5 rfl (by decide) (by omega) v132 y131 l2 _ _ _ (fun k_ => some k_ ≠ (.slice Ao91 t119.length co91 : Value).ownBlock) (fun _ => False) rfl rfl ?aO ?aR (fun _ _ h => h) (fun _ h => h.elim) ?aF ?aB ?aS ?aL ?_
                                  (case aR => repeat (first | exact (Kd.C_below HR2.out HB.out) | (with_reducible refine Kd.C_alloc ?_ _) | (with_reducible refine Kd.C_drewN ?_ _) | (with_reducible refine Kd.C_drew ?_)))
                                  (case aB => exact (by repeat (first | (with_reducible first | exact HB.out | apply below_alloc | apply pw_below_drewN | apply below_drew1 | refine below_set ?_ GE115.out | refine below_set ?_ GE122.out | refine below_set ?_ GE127.out) | exact HB.out)))
                                  (case aF => exact (fun k_ hk => Kd.fresh' (Kd.Q_lt (by (with_reducible repeat (first | apply Kd.Q_alloc | apply Kd.Q_drewN | apply Kd.Q_drew)); exact HO_11.out)) k_ hk))
                                  (case aO => exact (by (with_reducible repeat (first | apply Kd.R_alloc | apply Kd.R_drewN | apply Kd.R_drew)); exact HO133.out))
                                  (case aS => exact (below_size (by repeat (first | (with_reducible first | exact HB.out | apply below_alloc | apply pw_below_drewN | apply below_drew1 | refine below_set ?_ GE115.out | refine below_set ?_ GE122.out | refine below_set ?_ GE127.out) | exact HB.out))))
                                  (case aL => have := LMc51.out; omega)
                                  intro v135 w92 ho hb hg hat
                                  rw [← Ny134.out] at ho
                                  have n0_ := Aside0.mk (Kd.Q_after (ok := (fun _ => True)) (by (with_reducible repeat (first | apply Kd.Q_alloc | apply Kd.Q_drewN | apply Kd.Q_drew)); exact HO_11.out) hg hat)
                                  have n1_ := Aside0.mk (Kd.R_over' (by (with_reducible repeat (first | apply Kd.R_alloc | apply Kd.R_drewN | apply Kd.R_drew)); exact HO_50.out) (Kd.R_typed (by (with_reducible repeat (first | apply Kd.R_alloc | apply Kd.R_drewN | apply Kd.R_drew)); exact HO133.out)) (by decide) hg)
                                  have n2_ := Aside0.mk (blk_grown (g := gb115) (o := .cells #[.bool a0_0, .bool a0_1, .bool a0_2, .bool a0_3, .int .u32 a0_4, .int .u32 a0_5, .int .i64 a0_6] 24 (0, 0)) (by (with_reducible repeat (first | refine blk_drewN ?_ _ | refine blk_drew ?_ | refine blk_alloc ?_ _)); exact BK115.out) hg (Kd.R_ne HO133.out BK115.out (by decide)))
                                  have n3_ := Aside0.mk (blk_grown (g := gb122) (o := .cells #[.bool a0_0, .bool a0_1, .bool x123002_18, .bool x123003_32, .int .u32 a0_4, .int .u32 a0_5, .int .i64 a0_6] 24 (0, 0)) (by (with_reducible repeat (first | refine blk_drewN ?_ _ | refine blk_drew ?_ | refine blk_alloc ?_ _)); exact BK122.out) hg (Kd.R_ne HO133.out BK122.out (by decide)))
                                  have n4_ := Aside0.mk (blk_grown (g := gb127) (o := .cells #[.bool ((rd_T24 y123 x52_4).f0), .bool ((rd_T24 y123 x52_4).f1), .bool ((rd_T24 y123 x52_4).f2), .bool ((rd_T24 y123 x52_4).f3), .int .u32 ((rd_T24 y123 x52_4).f4), .int .u32 ((rd_T24 y123 x52_4).f5), .int .i64 ((rd_T24 y123 x52_4).f6)] 24 (0, 0)) (by (with_reducible repeat (first | refine blk_drewN ?_ _ | refine blk_drew ?_ | refine blk_alloc ?_ _)); exact BK127.out) hg (Kd.R_ne HO133.out BK127.out (by decide)))
                                  have n5_ := Aside0.mk (hb)
                                  have n6_ := Aside0.mk (ho)
                                  clear HO_11
                                  clear HO_50
                                  clear BK115
                                  clear BK122
                                  clear BK127
                                  clear HB
                                  clear HO133
                                  have HO_11 := n0_
                                  have HO_50 := n1_
                                  have BK115 := n2_
                                  have BK122 := n3_
                                  have BK127 := n4_
                                  have HB := n5_
                                  have HO136 := n6_
                                  clear n0_ n1_ n2_ n3_ n4_ n5_ n6_
                                  clear ho hb hg hat
                                  obtain ⟨Ao93, co93, eo93⟩ := Kd.R_slice HO136.out
                                  (first | subst eo93 | (injection eo93 with f1_ f2_ f3_; have f4_ := f1_.symm; have f5_ := f3_.symm; clear f1_ f2_ f3_; subst f4_; subst f5_))
                                  refine hK.out _ _ ⟨(blk_cell BK127.out 0).trans rfl, (blk_cell BK127.out 1).trans rfl, (blk_cell BK127.out 2).trans rfl, (blk_cell BK127.out 3).trans rfl, (blk_cell BK127.out 4).trans rfl, (blk_cell BK127.out 5).trans rfl, (blk_cell BK127.out 6).trans rfl⟩ (fun hHeld => ?_)
                                  clear hK K
                                  refine norm_ (a' := ?_) ?_ ?_
                                  rotate_left
                                  · show Act.put _ (some 62) _ = _
                                    simp only [Act.put, List.setIfInBounds_toArray, List.set_cons_zero, List.set_cons_succ, i64_w, i32_w]
                                    rfl
                                  refine one_ (i := 6) (N := some 63) #[true, true, true, true, true, true, true, false, false, false, false, false, false, false] rfl rfl (one_of HT_.out (by kernel_rfl)) (by decide) (fun K hK => ?_)
                                  refine goes_ Tryd.func29 (by kernel_rfl) rfl #[.agg #[.bool ((rd_T24 y123 x52_4).f0), .bool ((rd_T24 y123 x52_4).f1), .bool ((rd_T24 y123 x52_4).f2), .bool ((rd_T24 y123 x52_4).f3), .int .u32 ((rd_T24 y123 x52_4).f4), .int .u32 ((rd_T24 y123 x52_4).f5), .int .i64 ((rd_T24 y123 x52_4).f6)], .slice Ao93 y134.length co93] (by rfl) rfl rfl (by (try simp only [List.map_toArray, List.map_cons, List.map_nil]); first | done | rfl | (simp only [List.length_drop, List.length_take]; rfl)) ?_
                                  with_reducible refine (head_Get.calls k4 ((rd_T24 y123 x52_4).f0) ((rd_T24 y123 x52_4).f1) ((rd_T24 y123 x52_4).f2) ((rd_T24 y123 x52_4).f3) ((rd_T24 y123 x52_4).f4) ((rd_T24 y123 x52_4).f5) ((rd_T24 y123 x52_4).f6) _ _ y134 t137 t138 t139 _ ?side1 ?side2 ?side3 A52.out).mono ?_
                                  (case side1 => repeat (first | exact (Kd.R_reads' HO136.out).2.2 | (with_reducible refine Kd.C_alloc ?_ _) | (with_reducible refine Kd.C_drewN ?_ _) | (with_reducible refine Kd.C_drew ?_)))
                                  (case side2 => exact (Kd.R_reads' HO136.out).2.1)
                                  (case side3 => repeat (first | exact (GH_below HGH.out HB.out) | (with_reducible refine GH_alloc ?_ _) | (with_reducible refine GH_drewN ?_ _) | (with_reducible refine GH_drew ?_)))
                                  rintro e w94 ⟨rfl, hb⟩
                                  refine ⟨_, rfl, ?_⟩
                                  have n0_ := Aside0.mk (Kd.Q_below (by (with_reducible repeat (first | apply Kd.Q_alloc | apply Kd.Q_drewN | apply Kd.Q_drew)); exact HO_11.out) hb)
                                  have n1_ := Aside0.mk (Kd.R_below (by (with_reducible repeat (first | apply Kd.R_alloc | apply Kd.R_drewN | apply Kd.R_drew)); exact HO_50.out) hb)
                                  have n2_ := Aside0.mk (Kd.R_below (by (with_reducible repeat (first | apply Kd.R_alloc | apply Kd.R_drewN | apply Kd.R_drew)); exact HO136.out) hb)
                                  have n3_ := Aside0.mk (blk_below (g := gb115) (o := .cells #[.bool a0_0, .bool a0_1, .bool a0_2, .bool a0_3, .int .u32 a0_4, .int .u32 a0_5, .int .i64 a0_6] 24 (0, 0)) (by (with_reducible repeat (first | refine blk_drewN ?_ _ | refine blk_drew ?_ | refine blk_alloc ?_ _)); exact BK115.out) hb)
                                  have n4_ := Aside0.mk (blk_below (g := gb122) (o := .cells #[.bool a0_0, .bool a0_1, .bool x123002_18, .bool x123003_32, .int .u32 a0_4, .int .u32 a0_5, .int .i64 a0_6] 24 (0, 0)) (by (with_reducible repeat (first | refine blk_drewN ?_ _ | refine blk_drew ?_ | refine blk_alloc ?_ _)); exact BK122.out) hb)
                                  have n5_ := Aside0.mk (blk_below (g := gb127) (o := .cells #[.bool ((rd_T24 y123 x52_4).f0), .bool ((rd_T24 y123 x52_4).f1), .bool ((rd_T24 y123 x52_4).f2), .bool ((rd_T24 y123 x52_4).f3), .int .u32 ((rd_T24 y123 x52_4).f4), .int .u32 ((rd_T24 y123 x52_4).f5), .int .i64 ((rd_T24 y123 x52_4).f6)] 24 (0, 0)) (by (with_reducible repeat (first | refine blk_drewN ?_ _ | refine blk_drew ?_ | refine blk_alloc ?_ _)); exact BK127.out) hb)
                                  have n6_ := Aside0.mk (below_step (by repeat (first | (with_reducible first | exact HB.out | apply below_alloc | apply pw_below_drewN | apply below_drew1 | refine below_set ?_ GE115.out | refine below_set ?_ GE122.out | refine below_set ?_ GE127.out) | exact HB.out)) hb)
                                  clear HO_11
                                  clear HO_50
                                  clear HO136
                                  clear BK115
                                  clear BK122
                                  clear BK127
                                  clear HB
                                  have HO_11 := n0_
                                  have HO_50 := n1_
                                  have HO136 := n2_
                                  have BK115 := n3_
                                  have BK122 := n4_
                                  have BK127 := n5_
                                  have HB := n6_
                                  clear n0_ n1_ n2_ n3_ n4_ n5_ n6_
                                  (try clear hb)
                                  (try clear hb2)
                                  (try clear hk)
                                  (try clear hi)
                                  refine hK.out _ _ ⟨(blk_cell BK127.out 0).trans rfl, (blk_cell BK127.out 1).trans rfl, (blk_cell BK127.out 2).trans rfl, (blk_cell BK127.out 3).trans rfl, (blk_cell BK127.out 4).trans rfl, (blk_cell BK127.out 5).trans rfl, (blk_cell BK127.out 6).trans rfl⟩ (fun hHeld => ?_)
                                  clear hK K
                                  refine norm_ (a' := ?_) ?_ ?_
                                  rotate_left
                                  · show Act.put _ (some 63) _ = _
                                    simp only [Act.put, List.setIfInBounds_toArray, List.set_cons_zero, List.set_cons_succ, i64_w, i32_w]
                                    rfl
                                  refine pure_ (i := 7) (N := some 56) (v := ?_) (a' := ?_) #[true, true, true, true, true, true, true, true, false, false, false, false, false, false] rfl rfl (any_of HT_.out (by kernel_rfl)) (fun _ _ _ h => h) (Or.inl ⟨by rfl, ?_⟩) ?_ ?_
                                  rotate_left
                                  · intro w'
                                    go_simp
                                    with_reducible rfl
                                  rotate_left
                                  · simp only [Act.put, List.setIfInBounds_toArray, List.set_cons_zero, List.set_cons_succ, i64_w, i32_w]
                                    rfl
                                  refine pure_ (i := 8) (N := some 64) (v := ?_) (a' := ?_) #[true, true, true, true, true, true, true, true, true, false, false, false, false, false] rfl rfl (any_of HT_.out (by kernel_rfl)) (fun _ _ _ h => h) (Or.inl ⟨by rfl, ?_⟩) ?_ ?_
                                  rotate_left
                                  · intro w'
                                    go_simp
                                    with_reducible rfl
                                  rotate_left
                                  · simp only [Act.put, List.setIfInBounds_toArray, List.set_cons_zero, List.set_cons_succ, i64_w, i32_w]
                                    rfl
                                  refine pure_ (i := 9) (N := some 65) (v := ?_) (a' := ?_) #[true, true, true, true, true, true, true, true, true, true, false, false, false, false] rfl rfl (any_of HT_.out (by kernel_rfl)) (fun _ _ _ h => h) (Or.inl ⟨by rfl, ?_⟩) ?_ ?_
                                  rotate_left
                                  · intro w'
                                    go_simp
                                    with_reducible rfl
                                  rotate_left
                                  · simp only [Act.put, List.setIfInBounds_toArray, List.set_cons_zero, List.set_cons_succ, i64_w, i32_w]
                                    rfl
                                  refine pure_ (i := 10) (N := some 66) (v := ?_) (a' := ?_) #[true, true, true, true, true, true, true, true, true, true, true, false, false, false] rfl rfl (any_of HT_.out (by kernel_rfl)) (fun _ _ _ h => h) (Or.inl ⟨by rfl, ?_⟩) ?_ ?_
                                  rotate_left
                                  · intro w'
                                    go_simp
                                    with_reducible rfl
                                  rotate_left
                                  · simp only [Act.put, List.setIfInBounds_toArray, List.set_cons_zero, List.set_cons_succ, i64_w, i32_w]
                                    rfl
                                  refine pure_ (i := 11) (N := some 15) (v := ?_) (a' := ?_) #[true, true, true, true, true, true, true, true, true, true, true, true, false, false] rfl rfl (any_of HT_.out (by kernel_rfl)) (fun _ _ _ h => h) (Or.inl ⟨by rfl, ?_⟩) ?_ ?_
                                  rotate_left
                                  · intro w'
                                    go_simp
                                    with_reducible rfl
                                  rotate_left
                                  · simp only [Act.put, List.setIfInBounds_toArray, List.set_cons_zero, List.set_cons_succ, i64_w, i32_w]
                                    rfl
                                  refine pure_ (i := 12) (N := some 16) (v := ?_) (a' := ?_) #[true, true, true, true, true, true, true, true, true, true, true, true, true, false] rfl rfl (any_of HT_.out (by kernel_rfl)) (fun _ _ _ h => h) (Or.inl ⟨by rfl, ?_⟩) ?_ ?_
                                  rotate_left
                                  · intro w'
                                    go_simp
                                    with_reducible rfl
                                  rotate_left
                                  · simp only [Act.put, List.setIfInBounds_toArray, List.set_cons_zero, List.set_cons_succ, i64_w, i32_w]
                                    rfl
                                  refine pure_ (i := 13) (N := some 17) (v := ?_) (a' := ?_) #[true, true, true, true, true, true, true, true, true, true, true, true, true, true] rfl rfl (any_of HT_.out (by kernel_rfl)) (fun _ _ _ h => h) (Or.inl ⟨by rfl, ?_⟩) ?_ ?_
                                  rotate_left
                                  · intro w'
                                    go_simp
                                    with_reducible rfl
                                  rotate_left
                                  · simp only [Act.put, List.setIfInBounds_toArray, List.set_cons_zero, List.set_cons_succ, i64_w, i32_w]
                                    rfl
                                  refine done_ (done_of HT_.out (by kernel_rfl)) ?_
                                  try go_wp2
                                  go_ret
                                  exact ⟨by first | rfl | (simp [errW_none, errW_some] <;> rfl) | (simp [*, errW_none, errW_some] <;> rfl), by repeat (first | (with_reducible first | exact HB.out | apply below_alloc | apply pw_below_drewN | apply below_drew1 | refine below_set ?_ GE115.out | refine below_set ?_ GE122.out | refine below_set ?_ GE127.out) | exact HB.out)⟩
                              · rw [if_neg c53] at H
                                have c53b0 : (t139 == 0) = false := beq_eq_false_iff_ne.mpr c53
                                have c53b1 : (t139 != 0) = true := bne_iff_ne.mpr c53
                                obtain rfl := Option.some.inj H
                                have p126 : 0 ≤ (x52_4 : Int) := of_decide_eq_true (by first | (with_reducible assumption) | assumption)
                                have q126 : x52_4 < (y123.length : Int) := of_decide_eq_true (by first | (with_reducible assumption) | assumption)
                                obtain ⟨ad126, e126, hx126_0, hx126_1, hx126_2, hx126_3, hx126_4, hx126_5, hx126_6⟩ := at_T24 (Kd.R_reads' HO_50.out).2.2 x52_4 p126 q126
                                cases e126
                                replace p126 := eq_true p126
                                replace q126 := eq_true q126
                                try go_wp2_with (first | ((with_reducible refine gate_dst (N := 14) rfl ?_); (try (refine gate_guard (by rfl) ?_; dsimp only)); refine box_event ?hg (N := 14) ?hd (cs := #[.bool false, .bool false, .bool false, .bool false, .int .u32 0, .int .u32 0, .int .i64 0]) (t := 24) ?hr ?_; (case hd => rfl); (case hg => rfl); (case hr => first | (go_simp; done) | (go_simp; rfl)); intro gb127 hg w95 hbox hb; have n0_ := Aside0.mk (Kd.Q_below (by (with_reducible repeat (first | apply Kd.Q_alloc | apply Kd.Q_drewN | apply Kd.Q_drew)); exact HO_11.out) hb); have n1_ := Aside0.mk (Kd.R_below (Kd.R_elderB (by (with_reducible repeat (first | apply Kd.R_alloc | apply Kd.R_drewN | apply Kd.R_drew)); exact HO_50.out) gb127 (Nat.le_of_eq hg.symm)) hb); have n2_ := Aside0.mk (blk_below (g := gb115) (o := .cells #[.bool a0_0, .bool a0_1, .bool a0_2, .bool a0_3, .int .u32 a0_4, .int .u32 a0_5, .int .i64 a0_6] 24 (0, 0)) (by (with_reducible repeat (first | refine blk_drewN ?_ _ | refine blk_drew ?_ | refine blk_alloc ?_ _)); exact BK115.out) hb); have n3_ := Aside0.mk (blk_below (g := gb122) (o := .cells #[.bool a0_0, .bool a0_1, .bool x123002_18, .bool x123003_32, .int .u32 a0_4, .int .u32 a0_5, .int .i64 a0_6] 24 (0, 0)) (by (with_reducible repeat (first | refine blk_drewN ?_ _ | refine blk_drew ?_ | refine blk_alloc ?_ _)); exact BK122.out) hb); have n4_ := Aside0.mk (below_step (by repeat (first | (with_reducible first | exact HB.out | apply below_alloc | apply pw_below_drewN | apply below_drew1 | refine below_set ?_ GE115.out | refine below_set ?_ GE122.out) | exact HB.out)) hb); have n5_ := Aside0.mk (hbox); have n6_ := Aside0.mk ((by rw [hg]; exact (below_size (by repeat (first | (with_reducible first | exact HB.out | apply below_alloc | apply pw_below_drewN | apply below_drew1 | refine below_set ?_ GE115.out | refine below_set ?_ GE122.out) | exact HB.out))) : w.heap.size ≤ gb127)); have n7_ := Aside0.mk ((by rw [hg]; exact (below_size (by repeat (first | (with_reducible first | exact HB.out | apply below_alloc | apply pw_below_drewN | apply below_drew1 | refine below_set ?_ GE115.out | refine below_set ?_ GE122.out) | exact HB.out))) : w.heap.size ≤ gb127)); have n8_ := Aside0.mk ((by rw [hg]; exact Nat.ne_of_lt (blk_lt (g := gb115) (o := .cells #[.bool a0_0, .bool a0_1, .bool a0_2, .bool a0_3, .int .u32 a0_4, .int .u32 a0_5, .int .i64 a0_6] 24 (0, 0)) (by (with_reducible repeat (first | refine blk_drewN ?_ _ | refine blk_drew ?_ | refine blk_alloc ?_ _)); exact BK115.out)) : gb115 ≠ gb127)); have n9_ := Aside0.mk ((by rw [hg]; exact Nat.ne_of_gt (blk_lt (g := gb115) (o := .cells #[.bool a0_0, .bool a0_1, .bool a0_2, .bool a0_3, .int .u32 a0_4, .int .u32 a0_5, .int .i64 a0_6] 24 (0, 0)) (by (with_reducible repeat (first | refine blk_drewN ?_ _ | refine blk_drew ?_ | refine blk_alloc ?_ _)); exact BK115.out)) : gb127 ≠ gb115)); have n10_ := Aside0.mk ((by rw [hg]; exact Nat.ne_of_lt (blk_lt (g := gb122) (o := .cells #[.bool a0_0, .bool a0_1, .bool x123002_18, .bool x123003_32, .int .u32 a0_4, .int .u32 a0_5, .int .i64 a0_6] 24 (0, 0)) (by (with_reducible repeat (first | refine blk_drewN ?_ _ | refine blk_drew ?_ | refine blk_alloc ?_ _)); exact BK122.out)) : gb122 ≠ gb127)); have n11_ := Aside0.mk ((by rw [hg]; exact Nat.ne_of_gt (blk_lt (g := gb122) (o := .cells #[.bool a0_0, .bool a0_1, .bool x123002_18, .bool x123003_32, .int .u32 a0_4, .int .u32 a0_5, .int .i64 a0_6] 24 (0, 0)) (by (with_reducible repeat (first | refine blk_drewN ?_ _ | refine blk_drew ?_ | refine blk_alloc ?_ _)); exact BK122.out)) : gb127 ≠ gb122)); clear HO_11; clear HO_50; clear BK115; clear BK122; clear HB; have HO_11 := n0_; have HO_50 := n1_; have BK115 := n2_; have BK122 := n3_; have HB := n4_; have BK127 := n5_; have GW127 := n6_; have GE127 := n7_; have NB115_127 := n8_; have NB127_115 := n9_; have NB122_127 := n10_; have NB127_122 := n11_; clear n0_ n1_ n2_ n3_ n4_ n5_ n6_ n7_ n8_ n9_ n10_ n11_; clear hb hbox hg; have hnb96 := NB127_115.out; have hnc96 := NB115_127.out; have hnb97 := NB127_122.out; have hnc97 := NB122_127.out; have hcz98_0 : w95.cell? ⟨gb127, 0, none⟩ = some (.bool false) := (blk_cell BK127.out 0).trans rfl; have hcz98_1 : w95.cell? ⟨gb127, 1, none⟩ = some (.bool false) := (blk_cell BK127.out 1).trans rfl; have hcz98_2 : w95.cell? ⟨gb127, 2, none⟩ = some (.bool false) := (blk_cell BK127.out 2).trans rfl; have hcz98_3 : w95.cell? ⟨gb127, 3, none⟩ = some (.bool false) := (blk_cell BK127.out 3).trans rfl; have hcz98_4 : w95.cell? ⟨gb127, 4, none⟩ = some (.int .u32 0) := (blk_cell BK127.out 4).trans rfl; have hcz98_5 : w95.cell? ⟨gb127, 5, none⟩ = some (.int .u32 0) := (blk_cell BK127.out 5).trans rfl; have hcz98_6 : w95.cell? ⟨gb127, 6, none⟩ = some (.int .i64 0) := (blk_cell BK127.out 6).trans rfl; have hfz98_0 := blk_frozen BK127.out 0; have hfz98_1 := blk_frozen BK127.out 1; have hfz98_2 := blk_frozen BK127.out 2; have hfz98_3 := blk_frozen BK127.out 3; have hfz98_4 := blk_frozen BK127.out 4; have hfz98_5 := blk_frozen BK127.out 5; have hfz98_6 := blk_frozen BK127.out 6))
                                have n0_ : Aside0 (Kd.Q (Kd.int .u8) 5 (((((((w95.setCell ⟨gb127, 0, none⟩ (.bool ((rd_T24 y123 x52_4).f0))).setCell ⟨gb127, 1, none⟩ (.bool ((rd_T24 y123 x52_4).f1))).setCell ⟨gb127, 2, none⟩ (.bool ((rd_T24 y123 x52_4).f2))).setCell ⟨gb127, 3, none⟩ (.bool ((rd_T24 y123 x52_4).f3))).setCell ⟨gb127, 4, none⟩ (.int .u32 ((rd_T24 y123 x52_4).f4))).setCell ⟨gb127, 5, none⟩ (.int .u32 ((rd_T24 y123 x52_4).f5))).setCell ⟨gb127, 6, none⟩ (.int .i64 ((rd_T24 y123 x52_4).f6))) w.heap.size (fun _ => True) v120 t119) := ⟨by (with_reducible repeat (first | apply Kd.Q_alloc | apply Kd.Q_drewN | apply Kd.Q_drew)); exact Kd.Q_mono (Kd.Q_far (p := ⟨gb127, 6, none⟩) (Kd.Q_far (p := ⟨gb127, 5, none⟩) (Kd.Q_far (p := ⟨gb127, 4, none⟩) (Kd.Q_far (p := ⟨gb127, 3, none⟩) (Kd.Q_far (p := ⟨gb127, 2, none⟩) (Kd.Q_far (p := ⟨gb127, 1, none⟩) (Kd.Q_far (p := ⟨gb127, 0, none⟩) (Kd.Q_types HO_11.out BK127.out (by decide)) (fun _ hk => hk.2) (.bool ((rd_T24 y123 x52_4).f0))) (fun _ hk => hk.2) (.bool ((rd_T24 y123 x52_4).f1))) (fun _ hk => hk.2) (.bool ((rd_T24 y123 x52_4).f2))) (fun _ hk => hk.2) (.bool ((rd_T24 y123 x52_4).f3))) (fun _ hk => hk.2) (.int .u32 ((rd_T24 y123 x52_4).f4))) (fun _ hk => hk.2) (.int .u32 ((rd_T24 y123 x52_4).f5))) (fun _ hk => hk.2) (.int .i64 ((rd_T24 y123 x52_4).f6))) (fun _ hk => trivial)⟩
                                have n1_ : Aside0 (Kd.R k24 24 (((((((w95.setCell ⟨gb127, 0, none⟩ (.bool ((rd_T24 y123 x52_4).f0))).setCell ⟨gb127, 1, none⟩ (.bool ((rd_T24 y123 x52_4).f1))).setCell ⟨gb127, 2, none⟩ (.bool ((rd_T24 y123 x52_4).f2))).setCell ⟨gb127, 3, none⟩ (.bool ((rd_T24 y123 x52_4).f3))).setCell ⟨gb127, 4, none⟩ (.int .u32 ((rd_T24 y123 x52_4).f4))).setCell ⟨gb127, 5, none⟩ (.int .u32 ((rd_T24 y123 x52_4).f5))).setCell ⟨gb127, 6, none⟩ (.int .i64 ((rd_T24 y123 x52_4).f6))) w.heap.size (fun k_ => k_ ≠ gb115 ∧ k_ ≠ gb122 ∧ k_ ≠ gb127) (.slice (some ad126) y123.length co46) y123) := ⟨by (with_reducible repeat (first | apply Kd.R_alloc | apply Kd.R_drewN | apply Kd.R_drew)); exact Kd.R_mono (Kd.R_far (p := ⟨gb127, 6, none⟩) (Kd.R_far (p := ⟨gb127, 5, none⟩) (Kd.R_far (p := ⟨gb127, 4, none⟩) (Kd.R_far (p := ⟨gb127, 3, none⟩) (Kd.R_far (p := ⟨gb127, 2, none⟩) (Kd.R_far (p := ⟨gb127, 1, none⟩) (Kd.R_far (p := ⟨gb127, 0, none⟩) (Kd.R_mono HO_50.out (fun k_ hk => (⟨hk, hk.2⟩ : _ ∧ k_ ≠ gb127))) (fun _ hk => hk.2) (.bool ((rd_T24 y123 x52_4).f0))) (fun _ hk => hk.2) (.bool ((rd_T24 y123 x52_4).f1))) (fun _ hk => hk.2) (.bool ((rd_T24 y123 x52_4).f2))) (fun _ hk => hk.2) (.bool ((rd_T24 y123 x52_4).f3))) (fun _ hk => hk.2) (.int .u32 ((rd_T24 y123 x52_4).f4))) (fun _ hk => hk.2) (.int .u32 ((rd_T24 y123 x52_4).f5))) (fun _ hk => hk.2) (.int .i64 ((rd_T24 y123 x52_4).f6))) (fun _ hk => ⟨hk.1.1.1, ⟨hk.1.1.2, hk.1.2⟩⟩)⟩
                                have n2_ : Aside0 ((((((((w95.setCell ⟨gb127, 0, none⟩ (.bool ((rd_T24 y123 x52_4).f0))).setCell ⟨gb127, 1, none⟩ (.bool ((rd_T24 y123 x52_4).f1))).setCell ⟨gb127, 2, none⟩ (.bool ((rd_T24 y123 x52_4).f2))).setCell ⟨gb127, 3, none⟩ (.bool ((rd_T24 y123 x52_4).f3))).setCell ⟨gb127, 4, none⟩ (.int .u32 ((rd_T24 y123 x52_4).f4))).setCell ⟨gb127, 5, none⟩ (.int .u32 ((rd_T24 y123 x52_4).f5))).setCell ⟨gb127, 6, none⟩ (.int .i64 ((rd_T24 y123 x52_4).f6))).heap[gb115]? = some (.cells #[.bool a0_0, .bool a0_1, .bool a0_2, .bool a0_3, .int .u32 a0_4, .int .u32 a0_5, .int .i64 a0_6] 24 (0, 0))) := ⟨by (with_reducible repeat (first | refine blk_drewN ?_ _ | refine blk_drew ?_ | refine blk_alloc ?_ _)); refine blk_far ?_ NB115_127.out _; (with_reducible repeat (first | refine blk_drewN ?_ _ | refine blk_drew ?_ | refine blk_alloc ?_ _)); refine blk_far ?_ NB115_127.out _; (with_reducible repeat (first | refine blk_drewN ?_ _ | refine blk_drew ?_ | refine blk_alloc ?_ _)); refine blk_far ?_ NB115_127.out _; (with_reducible repeat (first | refine blk_drewN ?_ _ | refine blk_drew ?_ | refine blk_alloc ?_ _)); refine blk_far ?_ NB115_127.out _; (with_reducible repeat (first | refine blk_drewN ?_ _ | refine blk_drew ?_ | refine blk_alloc ?_ _)); refine blk_far ?_ NB115_127.out _; (with_reducible repeat (first | refine blk_drewN ?_ _ | refine blk_drew ?_ | refine blk_alloc ?_ _)); refine blk_far ?_ NB115_127.out _; (with_reducible repeat (first | refine blk_drewN ?_ _ | refine blk_drew ?_ | refine blk_alloc ?_ _)); refine blk_far ?_ NB115_127.out _; (with_reducible repeat (first | refine blk_drewN ?_ _ | refine blk_drew ?_ | refine blk_alloc ?_ _)); exact BK115.out⟩
                                have n3_ : Aside0 ((((((((w95.setCell ⟨gb127, 0, none⟩ (.bool ((rd_T24 y123 x52_4).f0))).setCell ⟨gb127, 1, none⟩ (.bool ((rd_T24 y123 x52_4).f1))).setCell ⟨gb127, 2, none⟩ (.bool ((rd_T24 y123 x52_4).f2))).setCell ⟨gb127, 3, none⟩ (.bool ((rd_T24 y123 x52_4).f3))).setCell ⟨gb127, 4, none⟩ (.int .u32 ((rd_T24 y123 x52_4).f4))).setCell ⟨gb127, 5, none⟩ (.int .u32 ((rd_T24 y123 x52_4).f5))).setCell ⟨gb127, 6, none⟩ (.int .i64 ((rd_T24 y123 x52_4).f6))).heap[gb122]? = some (.cells #[.bool a0_0, .bool a0_1, .bool x123002_18, .bool x123003_32, .int .u32 a0_4, .int .u32 a0_5, .int .i64 a0_6] 24 (0, 0))) := ⟨by (with_reducible repeat (first | refine blk_drewN ?_ _ | refine blk_drew ?_ | refine blk_alloc ?_ _)); refine blk_far ?_ NB122_127.out _; (with_reducible repeat (first | refine blk_drewN ?_ _ | refine blk_drew ?_ | refine blk_alloc ?_ _)); refine blk_far ?_ NB122_127.out _; (with_reducible repeat (first | refine blk_drewN ?_ _ | refine blk_drew ?_ | refine blk_alloc ?_ _)); refine blk_far ?_ NB122_127.out _; (with_reducible repeat (first | refine blk_drewN ?_ _ | refine blk_drew ?_ | refine blk_alloc ?_ _)); refine blk_far ?_ NB122_127.out _; (with_reducible repeat (first | refine blk_drewN ?_ _ | refine blk_drew ?_ | refine blk_alloc ?_ _)); refine blk_far ?_ NB122_127.out _; (with_reducible repeat (first | refine blk_drewN ?_ _ | refine blk_drew ?_ | refine blk_alloc ?_ _)); refine blk_far ?_ NB122_127.out _; (with_reducible repeat (first | refine blk_drewN ?_ _ | refine blk_drew ?_ | refine blk_alloc ?_ _)); refine blk_far ?_ NB122_127.out _; (with_reducible repeat (first | refine blk_drewN ?_ _ | refine blk_drew ?_ | refine blk_alloc ?_ _)); exact BK122.out⟩
                                have n4_ : Aside0 ((((((((w95.setCell ⟨gb127, 0, none⟩ (.bool ((rd_T24 y123 x52_4).f0))).setCell ⟨gb127, 1, none⟩ (.bool ((rd_T24 y123 x52_4).f1))).setCell ⟨gb127, 2, none⟩ (.bool ((rd_T24 y123 x52_4).f2))).setCell ⟨gb127, 3, none⟩ (.bool ((rd_T24 y123 x52_4).f3))).setCell ⟨gb127, 4, none⟩ (.int .u32 ((rd_T24 y123 x52_4).f4))).setCell ⟨gb127, 5, none⟩ (.int .u32 ((rd_T24 y123 x52_4).f5))).setCell ⟨gb127, 6, none⟩ (.int .i64 ((rd_T24 y123 x52_4).f6))).heap[gb127]? = some (.cells #[.bool ((rd_T24 y123 x52_4).f0), .bool ((rd_T24 y123 x52_4).f1), .bool ((rd_T24 y123 x52_4).f2), .bool ((rd_T24 y123 x52_4).f3), .int .u32 ((rd_T24 y123 x52_4).f4), .int .u32 ((rd_T24 y123 x52_4).f5), .int .i64 ((rd_T24 y123 x52_4).f6)] 24 (0, 0))) := ⟨by (with_reducible repeat (first | refine blk_drewN ?_ _ | refine blk_drew ?_ | refine blk_alloc ?_ _)); refine blk_put (cs := #[.bool ((rd_T24 y123 x52_4).f0), .bool ((rd_T24 y123 x52_4).f1), .bool ((rd_T24 y123 x52_4).f2), .bool ((rd_T24 y123 x52_4).f3), .int .u32 ((rd_T24 y123 x52_4).f4), .int .u32 ((rd_T24 y123 x52_4).f5), .int .i64 0]) ?_ 6 _ rfl; (with_reducible repeat (first | refine blk_drewN ?_ _ | refine blk_drew ?_ | refine blk_alloc ?_ _)); refine blk_put (cs := #[.bool ((rd_T24 y123 x52_4).f0), .bool ((rd_T24 y123 x52_4).f1), .bool ((rd_T24 y123 x52_4).f2), .bool ((rd_T24 y123 x52_4).f3), .int .u32 ((rd_T24 y123 x52_4).f4), .int .u32 0, .int .i64 0]) ?_ 5 _ rfl; (with_reducible repeat (first | refine blk_drewN ?_ _ | refine blk_drew ?_ | refine blk_alloc ?_ _)); refine blk_put (cs := #[.bool ((rd_T24 y123 x52_4).f0), .bool ((rd_T24 y123 x52_4).f1), .bool ((rd_T24 y123 x52_4).f2), .bool ((rd_T24 y123 x52_4).f3), .int .u32 0, .int .u32 0, .int .i64 0]) ?_ 4 _ rfl; (with_reducible repeat (first | refine blk_drewN ?_ _ | refine blk_drew ?_ | refine blk_alloc ?_ _)); refine blk_put (cs := #[.bool ((rd_T24 y123 x52_4).f0), .bool ((rd_T24 y123 x52_4).f1), .bool ((rd_T24 y123 x52_4).f2), .bool false, .int .u32 0, .int .u32 0, .int .i64 0]) ?_ 3 _ rfl; (with_reducible repeat (first | refine blk_drewN ?_ _ | refine blk_drew ?_ | refine blk_alloc ?_ _)); refine blk_put (cs := #[.bool ((rd_T24 y123 x52_4).f0), .bool ((rd_T24 y123 x52_4).f1), .bool false, .bool false, .int .u32 0, .int .u32 0, .int .i64 0]) ?_ 2 _ rfl; (with_reducible repeat (first | refine blk_drewN ?_ _ | refine blk_drew ?_ | refine blk_alloc ?_ _)); refine blk_put (cs := #[.bool ((rd_T24 y123 x52_4).f0), .bool false, .bool false, .bool false, .int .u32 0, .int .u32 0, .int .i64 0]) ?_ 1 _ rfl; (with_reducible repeat (first | refine blk_drewN ?_ _ | refine blk_drew ?_ | refine blk_alloc ?_ _)); refine blk_put (cs := #[.bool false, .bool false, .bool false, .bool false, .int .u32 0, .int .u32 0, .int .i64 0]) ?_ 0 _ rfl; (with_reducible repeat (first | refine blk_drewN ?_ _ | refine blk_drew ?_ | refine blk_alloc ?_ _)); exact BK127.out⟩
                                have n5_ : Aside0 (Below w.heap.size w (((((((w95.setCell ⟨gb127, 0, none⟩ (.bool ((rd_T24 y123 x52_4).f0))).setCell ⟨gb127, 1, none⟩ (.bool ((rd_T24 y123 x52_4).f1))).setCell ⟨gb127, 2, none⟩ (.bool ((rd_T24 y123 x52_4).f2))).setCell ⟨gb127, 3, none⟩ (.bool ((rd_T24 y123 x52_4).f3))).setCell ⟨gb127, 4, none⟩ (.int .u32 ((rd_T24 y123 x52_4).f4))).setCell ⟨gb127, 5, none⟩ (.int .u32 ((rd_T24 y123 x52_4).f5))).setCell ⟨gb127, 6, none⟩ (.int .i64 ((rd_T24 y123 x52_4).f6)))) := ⟨by repeat (first | (with_reducible first | exact HB.out | apply below_alloc | apply pw_below_drewN | apply below_drew1 | refine below_set ?_ GE115.out | refine below_set ?_ GE122.out | refine below_set ?_ GE127.out) | exact HB.out)⟩
                                (try clear HO_11)
                                (try clear HO_50)
                                (try clear BK115)
                                (try clear BK122)
                                (try clear BK127)
                                (try clear HB)
                                generalize (((((((w95.setCell ⟨gb127, 0, none⟩ (.bool ((rd_T24 y123 x52_4).f0))).setCell ⟨gb127, 1, none⟩ (.bool ((rd_T24 y123 x52_4).f1))).setCell ⟨gb127, 2, none⟩ (.bool ((rd_T24 y123 x52_4).f2))).setCell ⟨gb127, 3, none⟩ (.bool ((rd_T24 y123 x52_4).f3))).setCell ⟨gb127, 4, none⟩ (.int .u32 ((rd_T24 y123 x52_4).f4))).setCell ⟨gb127, 5, none⟩ (.int .u32 ((rd_T24 y123 x52_4).f5))).setCell ⟨gb127, 6, none⟩ (.int .i64 ((rd_T24 y123 x52_4).f6))) = w99 at n0_ n1_ n2_ n3_ n4_ n5_ ⊢
                                have HO_11 := n0_
                                have HO_50 := n1_
                                have BK115 := n2_
                                have BK122 := n3_
                                have BK127 := n4_
                                have HB := n5_
                                clear n0_ n1_ n2_ n3_ n4_ n5_
                                have n0_ := Aside0.mk (Kd.Q_drew HO_11.out)
                                have n1_ := Aside0.mk (Kd.R_drew HO_50.out)
                                have n2_ := Aside0.mk (blk_drew BK115.out)
                                have n3_ := Aside0.mk (blk_drew BK122.out)
                                have n4_ := Aside0.mk (blk_drew BK127.out)
                                have n5_ := Aside0.mk (below_drew1 HB.out)
                                clear HO_11
                                clear HO_50
                                clear BK115
                                clear BK122
                                clear BK127
                                clear HB
                                have HO_11 := n0_
                                have HO_50 := n1_
                                have BK115 := n2_
                                have BK122 := n3_
                                have BK127 := n4_
                                have HB := n5_
                                clear n0_ n1_ n2_ n3_ n4_ n5_
                                refine start_ (n := 14) (S := fun w' => w'.cell? ⟨gb127, 0, none⟩ = some (.bool ((rd_T24 y123 x52_4).f0)) ∧ w'.cell? ⟨gb127, 1, none⟩ = some (.bool ((rd_T24 y123 x52_4).f1)) ∧ w'.cell? ⟨gb127, 2, none⟩ = some (.bool ((rd_T24 y123 x52_4).f2)) ∧ w'.cell? ⟨gb127, 3, none⟩ = some (.bool ((rd_T24 y123 x52_4).f3)) ∧ w'.cell? ⟨gb127, 4, none⟩ = some (.int .u32 ((rd_T24 y123 x52_4).f4)) ∧ w'.cell? ⟨gb127, 5, none⟩ = some (.int .u32 ((rd_T24 y123 x52_4).f5)) ∧ w'.cell? ⟨gb127, 6, none⟩ = some (.int .i64 ((rd_T24 y123 x52_4).f6))) (ds := []) #[false, false, false, false, false, false, false, false, false, false, false, false, false, false] (by kernel_rfl) rfl rfl ⟨(blk_cell BK127.out 0).trans rfl, (blk_cell BK127.out 1).trans rfl, (blk_cell BK127.out 2).trans rfl, (blk_cell BK127.out 3).trans rfl, (blk_cell BK127.out 4).trans rfl, (blk_cell BK127.out 5).trans rfl, (blk_cell BK127.out 6).trans rfl⟩ (fun hHeld => ?_); refine with_tabW marlinelaw10_HeadBack.tab10 marlinelaw10_HeadBack.bits10 (fun HT_ HW_ => ?_)
                                generalize w99.drew = w100 at HO_11 HO_50 BK115 BK122 BK127 HB hHeld ⊢
                                refine pure_ (i := 2) (N := some 59) (v := ?_) (a' := ?_) #[false, false, true, false, false, false, false, false, false, false, false, false, false, false] rfl rfl (any_of HT_.out (by kernel_rfl)) (fun _ _ _ h => h) (Or.inl ⟨by rfl, ?_⟩) ?_ ?_
                                rotate_left
                                · intro w'
                                  go_simp
                                  with_reducible rfl
                                rotate_left
                                · simp only [Act.put, List.setIfInBounds_toArray, List.set_cons_zero, List.set_cons_succ, i64_w, i32_w]
                                  rfl
                                refine pure_ (i := 4) (N := some 61) (v := ?_) (a' := ?_) #[false, false, true, false, true, false, false, false, false, false, false, false, false, false] rfl rfl (any_of HT_.out (by kernel_rfl)) (fun _ _ _ h => h) (Or.inl ⟨by rfl, ?_⟩) ?_ ?_
                                rotate_left
                                · intro w'
                                  go_simp
                                  with_reducible rfl
                                rotate_left
                                · simp only [Act.put, List.setIfInBounds_toArray, List.set_cons_zero, List.set_cons_succ, i64_w, i32_w]
                                  rfl
                                refine take_ (i := 0) (N := some 57) (v := ?_) (a' := ?_) #[true, false, true, false, true, false, false, false, false, false, false, false, false, false] rfl rfl (take_ofW HT_.out HW_.out (by kernel_rfl)) (fun _ _ _ h => h) (Or.inl ⟨by rfl, ?_⟩) hHeld ?_ ?_
                                rotate_left
                                · rintro w' ⟨s0, s1, s2, s3, s4, s5, s6⟩
                                  go_simp
                                  with_reducible rfl
                                rotate_left
                                · simp only [Act.put, List.setIfInBounds_toArray, List.set_cons_zero, List.set_cons_succ, i64_w, i32_w]
                                  rfl
                                refine one_ (i := 1) (N := some 58) #[true, true, true, false, true, false, false, false, false, false, false, false, false, false] rfl rfl (one_of HT_.out (by kernel_rfl)) (by decide) (fun K hK => ?_)
                                refine Kd.R_lit_step (Kd.int .u8) _ 5 ?hg (N := 58) ?hd (xs := ([] : List Int)) (inner := []) (ok := fun _ => True) (okp := fun _ => True) ?hr ?hp (fun _ hk => hk) trivial (Below.refl _ _) (Nat.le_refl _) (by simp) ?_; (case hd => rfl); (case hg => rfl); (case hr => first | (go_simp; done) | (go_simp; rfl)); (case hp => exact (Reps.none _ _))
                                intro v129 w101 ho102 hb hg_ hnew_
                                clear hg_ hnew_
                                (first | rw [← Ny128.out] at ho102 | (simp only [Int.reduceToNat] at ho102; rw [← Ny128.out] at ho102))
                                have n0_ := Aside0.mk (Kd.Q_elder' (by (with_reducible repeat (first | apply Kd.Q_alloc | apply Kd.Q_drewN | apply Kd.Q_drew)); exact HO_11.out) (Kd.R_base ho102) hb)
                                have n1_ := Aside0.mk (Kd.R_below (by (with_reducible repeat (first | apply Kd.R_alloc | apply Kd.R_drewN | apply Kd.R_drew)); exact HO_50.out) hb)
                                have n2_ := Aside0.mk (Kd.R_lower (Kd.R_new' ho102 (Kd.Q_lt (by (with_reducible repeat (first | apply Kd.Q_alloc | apply Kd.Q_drewN | apply Kd.Q_drew)); exact HO_11.out))) (below_size (by repeat (first | (with_reducible first | exact HB.out | apply below_alloc | apply pw_below_drewN | apply below_drew1 | refine below_set ?_ GE115.out | refine below_set ?_ GE122.out | refine below_set ?_ GE127.out) | exact HB.out))))
                                have n3_ := Aside0.mk (blk_below (g := gb115) (o := .cells #[.bool a0_0, .bool a0_1, .bool a0_2, .bool a0_3, .int .u32 a0_4, .int .u32 a0_5, .int .i64 a0_6] 24 (0, 0)) (by (with_reducible repeat (first | refine blk_drewN ?_ _ | refine blk_drew ?_ | refine blk_alloc ?_ _)); exact BK115.out) hb)
                                have n4_ := Aside0.mk (blk_below (g := gb122) (o := .cells #[.bool a0_0, .bool a0_1, .bool x123002_18, .bool x123003_32, .int .u32 a0_4, .int .u32 a0_5, .int .i64 a0_6] 24 (0, 0)) (by (with_reducible repeat (first | refine blk_drewN ?_ _ | refine blk_drew ?_ | refine blk_alloc ?_ _)); exact BK122.out) hb)
                                have n5_ := Aside0.mk (blk_below (g := gb127) (o := .cells #[.bool ((rd_T24 y123 x52_4).f0), .bool ((rd_T24 y123 x52_4).f1), .bool ((rd_T24 y123 x52_4).f2), .bool ((rd_T24 y123 x52_4).f3), .int .u32 ((rd_T24 y123 x52_4).f4), .int .u32 ((rd_T24 y123 x52_4).f5), .int .i64 ((rd_T24 y123 x52_4).f6)] 24 (0, 0)) (by (with_reducible repeat (first | refine blk_drewN ?_ _ | refine blk_drew ?_ | refine blk_alloc ?_ _)); exact BK127.out) hb)
                                have n6_ := Aside0.mk (below_step (by repeat (first | (with_reducible first | exact HB.out | apply below_alloc | apply pw_below_drewN | apply below_drew1 | refine below_set ?_ GE115.out | refine below_set ?_ GE122.out | refine below_set ?_ GE127.out) | exact HB.out)) hb)
                                clear HO_11
                                clear HO_50
                                clear BK115
                                clear BK122
                                clear BK127
                                clear HB
                                have HO_11 := n0_
                                have HO_50 := n1_
                                have HO130 := n2_
                                have BK115 := n3_
                                have BK122 := n4_
                                have BK127 := n5_
                                have HB := n6_
                                clear n0_ n1_ n2_ n3_ n4_ n5_ n6_
                                clear hb ho102
                                obtain ⟨Ao104, co104, eo104, _⟩ := Kd.Q_slice HO_11.out
                                (first | subst eo104 | (injection eo104 with f1_ f2_ f3_; have f4_ := f1_.symm; have f5_ := f3_.symm; clear f1_ f2_ f3_; subst f4_; subst f5_))
                                refine hK.out _ _ ⟨(blk_cell BK127.out 0).trans rfl, (blk_cell BK127.out 1).trans rfl, (blk_cell BK127.out 2).trans rfl, (blk_cell BK127.out 3).trans rfl, (blk_cell BK127.out 4).trans rfl, (blk_cell BK127.out 5).trans rfl, (blk_cell BK127.out 6).trans rfl⟩ (fun hHeld => ?_)
                                clear hK K
                                refine norm_ (a' := ?_) ?_ ?_
                                rotate_left
                                · show Act.put _ (some 58) _ = _
                                  simp only [Act.put, List.setIfInBounds_toArray, List.set_cons_zero, List.set_cons_succ, i64_w, i32_w]
                                  rfl
                                refine one_ (i := 3) (N := some 60) #[true, true, true, true, true, false, false, false, false, false, false, false, false, false] rfl rfl (one_of HT_.out (by kernel_rfl)) (by decide) (fun K hK => ?_)
                                refine Kd.R_append_rows_step (Kd.int .u8) (w0 := w) w.heap.size (by rfl) (.tmp 58) (.tmp 59) 35 5 (.int .u8 0) 1 rfl Tryd.underlying35 info5 rfl (by decide) (by omega) v129 y128 t119 _ _ _ (fun k_ => some k_ ≠ (.slice Ao104 t119.length co104 : Value).ownBlock) (fun _ => False) rfl rfl ?aO ?aR (fun _ _ h => h) (fun _ h => h.elim) ?aF ?aB ?aS ?aL ?_
                                (case aR => repeat (first | exact (Kd.Q_reads' HO_11.out).2.2 | (with_reducible refine Kd.C_alloc ?_ _) | (with_reducible refine Kd.C_drewN ?_ _) | (with_reducible refine Kd.C_drew ?_)))
                                (case aB => exact (by repeat (first | (with_reducible first | exact HB.out | apply below_alloc | apply pw_below_drewN | apply below_drew1 | refine below_set ?_ GE115.out | refine below_set ?_ GE122.out | refine below_set ?_ GE127.out) | exact HB.out)))
                                (case aF => exact (fun k_ hk => Kd.fresh' (Kd.Q_lt (by (with_reducible repeat (first | apply Kd.Q_alloc | apply Kd.Q_drewN | apply Kd.Q_drew)); exact HO_11.out)) k_ hk))
                                (case aO => exact (by (with_reducible repeat (first | apply Kd.R_alloc | apply Kd.R_drewN | apply Kd.R_drew)); exact Kd.R_mono HO130.out (fun _ hk => hk.2)))
                                (case aS => exact (below_size (by repeat (first | (with_reducible first | exact HB.out | apply below_alloc | apply pw_below_drewN | apply below_drew1 | refine below_set ?_ GE115.out | refine below_set ?_ GE122.out | refine below_set ?_ GE127.out) | exact HB.out))))
                                (case aL => have := LMc50.out; omega)
                                intro v132 w103 ho hb hg hat
                                rw [← Ny131.out] at ho
                                have n0_ := Aside0.mk (Kd.Q_after (ok := (fun _ => True)) (by (with_reducible repeat (first | apply Kd.Q_alloc | apply Kd.Q_drewN | apply Kd.Q_drew)); exact HO_11.out) hg hat)
                                have n1_ := Aside0.mk (Kd.R_over' (by (with_reducible repeat (first | apply Kd.R_alloc | apply Kd.R_drewN | apply Kd.R_drew)); exact HO_50.out) (Kd.R_typed (by (with_reducible repeat (first | apply Kd.R_alloc | apply Kd.R_drewN | apply Kd.R_drew)); exact HO130.out)) (by decide) hg)
                                have n2_ := Aside0.mk (blk_grown (g := gb115) (o := .cells #[.bool a0_0, .bool a0_1, .bool a0_2, .bool a0_3, .int .u32 a0_4, .int .u32 a0_5, .int .i64 a0_6] 24 (0, 0)) (by (with_reducible repeat (first | refine blk_drewN ?_ _ | refine blk_drew ?_ | refine blk_alloc ?_ _)); exact BK115.out) hg (Kd.R_ne HO130.out BK115.out (by decide)))
                                have n3_ := Aside0.mk (blk_grown (g := gb122) (o := .cells #[.bool a0_0, .bool a0_1, .bool x123002_18, .bool x123003_32, .int .u32 a0_4, .int .u32 a0_5, .int .i64 a0_6] 24 (0, 0)) (by (with_reducible repeat (first | refine blk_drewN ?_ _ | refine blk_drew ?_ | refine blk_alloc ?_ _)); exact BK122.out) hg (Kd.R_ne HO130.out BK122.out (by decide)))
                                have n4_ := Aside0.mk (blk_grown (g := gb127) (o := .cells #[.bool ((rd_T24 y123 x52_4).f0), .bool ((rd_T24 y123 x52_4).f1), .bool ((rd_T24 y123 x52_4).f2), .bool ((rd_T24 y123 x52_4).f3), .int .u32 ((rd_T24 y123 x52_4).f4), .int .u32 ((rd_T24 y123 x52_4).f5), .int .i64 ((rd_T24 y123 x52_4).f6)] 24 (0, 0)) (by (with_reducible repeat (first | refine blk_drewN ?_ _ | refine blk_drew ?_ | refine blk_alloc ?_ _)); exact BK127.out) hg (Kd.R_ne HO130.out BK127.out (by decide)))
                                have n5_ := Aside0.mk (hb)
                                have n6_ := Aside0.mk (ho)
                                clear HO_11
                                clear HO_50
                                clear BK115
                                clear BK122
                                clear BK127
                                clear HB
                                clear HO130
                                have HO_11 := n0_
                                have HO_50 := n1_
                                have BK115 := n2_
                                have BK122 := n3_
                                have BK127 := n4_
                                have HB := n5_
                                have HO133 := n6_
                                clear n0_ n1_ n2_ n3_ n4_ n5_ n6_
                                clear ho hb hg hat
                                refine hK.out _ _ ⟨(blk_cell BK127.out 0).trans rfl, (blk_cell BK127.out 1).trans rfl, (blk_cell BK127.out 2).trans rfl, (blk_cell BK127.out 3).trans rfl, (blk_cell BK127.out 4).trans rfl, (blk_cell BK127.out 5).trans rfl, (blk_cell BK127.out 6).trans rfl⟩ (fun hHeld => ?_)
                                clear hK K
                                refine norm_ (a' := ?_) ?_ ?_
                                rotate_left
                                · show Act.put _ (some 60) _ = _
                                  simp only [Act.put, List.setIfInBounds_toArray, List.set_cons_zero, List.set_cons_succ, i64_w, i32_w]
                                  rfl
                                refine one_ (i := 5) (N := some 62) #[true, true, true, true, true, true, false, false, false, false, false, false, false, false] rfl rfl (one_of HT_.out (by kernel_rfl)) (by decide) (fun K hK => ?_)
                                refine Kd.R_append_rows_step (Kd.int .u8) (w0 := w) w.heap.size (by rfl) (.tmp 60) (.tmp 61) 35 5 (.int .u8 0) 1 rfl Tryd.underlying35 info5 rfl (by decide) (by omega) v132 y131 l2 _ _ _ (fun k_ => some k_ ≠ (.slice Ao104 t119.length co104 : Value).ownBlock) (fun _ => False) rfl rfl ?aO ?aR (fun _ _ h => h) (fun _ h => h.elim) ?aF ?aB ?aS ?aL ?_
                                (case aR => repeat (first | exact (Kd.C_below HR2.out HB.out) | (with_reducible refine Kd.C_alloc ?_ _) | (with_reducible refine Kd.C_drewN ?_ _) | (with_reducible refine Kd.C_drew ?_)))
                                (case aB => exact (by repeat (first | (with_reducible first | exact HB.out | apply below_alloc | apply pw_below_drewN | apply below_drew1 | refine below_set ?_ GE115.out | refine below_set ?_ GE122.out | refine below_set ?_ GE127.out) | exact HB.out)))
                                (case aF => exact (fun k_ hk => Kd.fresh' (Kd.Q_lt (by (with_reducible repeat (first | apply Kd.Q_alloc | apply Kd.Q_drewN | apply Kd.Q_drew)); exact HO_11.out)) k_ hk))
                                (case aO => exact (by (with_reducible repeat (first | apply Kd.R_alloc | apply Kd.R_drewN | apply Kd.R_drew)); exact HO133.out))
                                (case aS => exact (below_size (by repeat (first | (with_reducible first | exact HB.out | apply below_alloc | apply pw_below_drewN | apply below_drew1 | refine below_set ?_ GE115.out | refine below_set ?_ GE122.out | refine below_set ?_ GE127.out) | exact HB.out))))
                                (case aL => have := LMc51.out; omega)
                                intro v135 w105 ho hb hg hat
                                rw [← Ny134.out] at ho
                                have n0_ := Aside0.mk (Kd.Q_after (ok := (fun _ => True)) (by (with_reducible repeat (first | apply Kd.Q_alloc | apply Kd.Q_drewN | apply Kd.Q_drew)); exact HO_11.out) hg hat)
                                have n1_ := Aside0.mk (Kd.R_over' (by (with_reducible repeat (first | apply Kd.R_alloc | apply Kd.R_drewN | apply Kd.R_drew)); exact HO_50.out) (Kd.R_typed (by (with_reducible repeat (first | apply Kd.R_alloc | apply Kd.R_drewN | apply Kd.R_drew)); exact HO133.out)) (by decide) hg)
                                have n2_ := Aside0.mk (blk_grown (g := gb115) (o := .cells #[.bool a0_0, .bool a0_1, .bool a0_2, .bool a0_3, .int .u32 a0_4, .int .u32 a0_5, .int .i64 a0_6] 24 (0, 0)) (by (with_reducible repeat (first | refine blk_drewN ?_ _ | refine blk_drew ?_ | refine blk_alloc ?_ _)); exact BK115.out) hg (Kd.R_ne HO133.out BK115.out (by decide)))
                                have n3_ := Aside0.mk (blk_grown (g := gb122) (o := .cells #[.bool a0_0, .bool a0_1, .bool x123002_18, .bool x123003_32, .int .u32 a0_4, .int .u32 a0_5, .int .i64 a0_6] 24 (0, 0)) (by (with_reducible repeat (first | refine blk_drewN ?_ _ | refine blk_drew ?_ | refine blk_alloc ?_ _)); exact BK122.out) hg (Kd.R_ne HO133.out BK122.out (by decide)))
                                have n4_ := Aside0.mk (blk_grown (g := gb127) (o := .cells #[.bool ((rd_T24 y123 x52_4).f0), .bool ((rd_T24 y123 x52_4).f1), .bool ((rd_T24 y123 x52_4).f2), .bool ((rd_T24 y123 x52_4).f3), .int .u32 ((rd_T24 y123 x52_4).f4), .int .u32 ((rd_T24 y123 x52_4).f5), .int .i64 ((rd_T24 y123 x52_4).f6)] 24 (0, 0)) (by (with_reducible repeat (first | refine blk_drewN ?_ _ | refine blk_drew ?_ | refine blk_alloc ?_ _)); exact BK127.out) hg (Kd.R_ne HO133.out BK127.out (by decide)))
                                have n5_ := Aside0.mk (hb)
                                have n6_ := Aside0.mk (ho)
                                clear HO_11
                                clear HO_50
                                clear BK115
                                clear BK122
                                clear BK127
                                clear HB
                                clear HO133
                                have HO_11 := n0_
                                have HO_50 := n1_
                                have BK115 := n2_
                                have BK122 := n3_
                                have BK127 := n4_
                                have HB := n5_
                                have HO136 := n6_
                                clear n0_ n1_ n2_ n3_ n4_ n5_ n6_
                                clear ho hb hg hat
                                obtain ⟨Ao106, co106, eo106⟩ := Kd.R_slice HO136.out
                                (first | subst eo106 | (injection eo106 with f1_ f2_ f3_; have f4_ := f1_.symm; have f5_ := f3_.symm; clear f1_ f2_ f3_; subst f4_; subst f5_))
                                refine hK.out _ _ ⟨(blk_cell BK127.out 0).trans rfl, (blk_cell BK127.out 1).trans rfl, (blk_cell BK127.out 2).trans rfl, (blk_cell BK127.out 3).trans rfl, (blk_cell BK127.out 4).trans rfl, (blk_cell BK127.out 5).trans rfl, (blk_cell BK127.out 6).trans rfl⟩ (fun hHeld => ?_)
                                clear hK K
                                refine norm_ (a' := ?_) ?_ ?_
                                rotate_left
                                · show Act.put _ (some 62) _ = _
                                  simp only [Act.put, List.setIfInBounds_toArray, List.set_cons_zero, List.set_cons_succ, i64_w, i32_w]
                                  rfl
                                refine one_ (i := 6) (N := some 63) #[true, true, true, true, true, true, true, false, false, false, false, false, false, false] rfl rfl (one_of HT_.out (by kernel_rfl)) (by decide) (fun K hK => ?_)
                                refine goes_ Tryd.func29 (by kernel_rfl) rfl #[.agg #[.bool ((rd_T24 y123 x52_4).f0), .bool ((rd_T24 y123 x52_4).f1), .bool ((rd_T24 y123 x52_4).f2), .bool ((rd_T24 y123 x52_4).f3), .int .u32 ((rd_T24 y123 x52_4).f4), .int .u32 ((rd_T24 y123 x52_4).f5), .int .i64 ((rd_T24 y123 x52_4).f6)], .slice Ao106 y134.length co106] (by rfl) rfl rfl (by (try simp only [List.map_toArray, List.map_cons, List.map_nil]); first | done | rfl | (simp only [List.length_drop, List.length_take]; rfl)) ?_
                                with_reducible refine (head_Get.calls k4 ((rd_T24 y123 x52_4).f0) ((rd_T24 y123 x52_4).f1) ((rd_T24 y123 x52_4).f2) ((rd_T24 y123 x52_4).f3) ((rd_T24 y123 x52_4).f4) ((rd_T24 y123 x52_4).f5) ((rd_T24 y123 x52_4).f6) _ _ y134 t137 t138 t139 _ ?side1 ?side2 ?side3 A52.out).mono ?_
                                (case side1 => repeat (first | exact (Kd.R_reads' HO136.out).2.2 | (with_reducible refine Kd.C_alloc ?_ _) | (with_reducible refine Kd.C_drewN ?_ _) | (with_reducible refine Kd.C_drew ?_)))
                                (case side2 => exact (Kd.R_reads' HO136.out).2.1)
                                (case side3 => repeat (first | exact (GH_below HGH.out HB.out) | (with_reducible refine GH_alloc ?_ _) | (with_reducible refine GH_drewN ?_ _) | (with_reducible refine GH_drew ?_)))
                                rintro e w107 ⟨rfl, hb⟩
                                refine ⟨_, rfl, ?_⟩
                                have n0_ := Aside0.mk (Kd.Q_below (by (with_reducible repeat (first | apply Kd.Q_alloc | apply Kd.Q_drewN | apply Kd.Q_drew)); exact HO_11.out) hb)
                                have n1_ := Aside0.mk (Kd.R_below (by (with_reducible repeat (first | apply Kd.R_alloc | apply Kd.R_drewN | apply Kd.R_drew)); exact HO_50.out) hb)
                                have n2_ := Aside0.mk (Kd.R_below (by (with_reducible repeat (first | apply Kd.R_alloc | apply Kd.R_drewN | apply Kd.R_drew)); exact HO136.out) hb)
                                have n3_ := Aside0.mk (blk_below (g := gb115) (o := .cells #[.bool a0_0, .bool a0_1, .bool a0_2, .bool a0_3, .int .u32 a0_4, .int .u32 a0_5, .int .i64 a0_6] 24 (0, 0)) (by (with_reducible repeat (first | refine blk_drewN ?_ _ | refine blk_drew ?_ | refine blk_alloc ?_ _)); exact BK115.out) hb)
                                have n4_ := Aside0.mk (blk_below (g := gb122) (o := .cells #[.bool a0_0, .bool a0_1, .bool x123002_18, .bool x123003_32, .int .u32 a0_4, .int .u32 a0_5, .int .i64 a0_6] 24 (0, 0)) (by (with_reducible repeat (first | refine blk_drewN ?_ _ | refine blk_drew ?_ | refine blk_alloc ?_ _)); exact BK122.out) hb)
                                have n5_ := Aside0.mk (blk_below (g := gb127) (o := .cells #[.bool ((rd_T24 y123 x52_4).f0), .bool ((rd_T24 y123 x52_4).f1), .bool ((rd_T24 y123 x52_4).f2), .bool ((rd_T24 y123 x52_4).f3), .int .u32 ((rd_T24 y123 x52_4).f4), .int .u32 ((rd_T24 y123 x52_4).f5), .int .i64 ((rd_T24 y123 x52_4).f6)] 24 (0, 0)) (by (with_reducible repeat (first | refine blk_drewN ?_ _ | refine blk_drew ?_ | refine blk_alloc ?_ _)); exact BK127.out) hb)
                                have n6_ := Aside0.mk (below_step (by repeat (first | (with_reducible first | exact HB.out | apply below_alloc | apply pw_below_drewN | apply below_drew1 | refine below_set ?_ GE115.out | refine below_set ?_ GE122.out | refine below_set ?_ GE127.out) | exact HB.out)) hb)
                                clear HO_11
                                clear HO_50
                                clear HO136
                                clear BK115
                                clear BK122
                                clear BK127
                                clear HB
                                have HO_11 := n0_
                                have HO_50 := n1_
                                have HO136 := n2_
                                have BK115 := n3_
                                have BK122 := n4_
                                have BK127 := n5_
                                have HB := n6_
                                clear n0_ n1_ n2_ n3_ n4_ n5_ n6_
                                (try clear hb)
                                (try clear hb2)
                                (try clear hk)
                                (try clear hi)
                                refine hK.out _ _ ⟨(blk_cell BK127.out 0).trans rfl, (blk_cell BK127.out 1).trans rfl, (blk_cell BK127.out 2).trans rfl, (blk_cell BK127.out 3).trans rfl, (blk_cell BK127.out 4).trans rfl, (blk_cell BK127.out 5).trans rfl, (blk_cell BK127.out 6).trans rfl⟩ (fun hHeld => ?_)
                                clear hK K
                                refine norm_ (a' := ?_) ?_ ?_
                                rotate_left
                                · show Act.put _ (some 63) _ = _
                                  simp only [Act.put, List.setIfInBounds_toArray, List.set_cons_zero, List.set_cons_succ, i64_w, i32_w]
                                  rfl
                                refine pure_ (i := 7) (N := some 56) (v := ?_) (a' := ?_) #[true, true, true, true, true, true, true, true, false, false, false, false, false, false] rfl rfl (any_of HT_.out (by kernel_rfl)) (fun _ _ _ h => h) (Or.inl ⟨by rfl, ?_⟩) ?_ ?_
                                rotate_left
                                · intro w'
                                  go_simp
                                  with_reducible rfl
                                rotate_left
                                · simp only [Act.put, List.setIfInBounds_toArray, List.set_cons_zero, List.set_cons_succ, i64_w, i32_w]
                                  rfl
                                refine pure_ (i := 8) (N := some 64) (v := ?_) (a' := ?_) #[true, true, true, true, true, true, true, true, true, false, false, false, false, false] rfl rfl (any_of HT_.out (by kernel_rfl)) (fun _ _ _ h => h) (Or.inl ⟨by rfl, ?_⟩) ?_ ?_
                                rotate_left
                                · intro w'
                                  go_simp
                                  with_reducible rfl
                                rotate_left
                                · simp only [Act.put, List.setIfInBounds_toArray, List.set_cons_zero, List.set_cons_succ, i64_w, i32_w]
                                  rfl
                                refine pure_ (i := 9) (N := some 65) (v := ?_) (a' := ?_) #[true, true, true, true, true, true, true, true, true, true, false, false, false, false] rfl rfl (any_of HT_.out (by kernel_rfl)) (fun _ _ _ h => h) (Or.inl ⟨by rfl, ?_⟩) ?_ ?_
                                rotate_left
                                · intro w'
                                  go_simp
                                  with_reducible rfl
                                rotate_left
                                · simp only [Act.put, List.setIfInBounds_toArray, List.set_cons_zero, List.set_cons_succ, i64_w, i32_w]
                                  rfl
                                refine pure_ (i := 10) (N := some 66) (v := ?_) (a' := ?_) #[true, true, true, true, true, true, true, true, true, true, true, false, false, false] rfl rfl (any_of HT_.out (by kernel_rfl)) (fun _ _ _ h => h) (Or.inl ⟨by rfl, ?_⟩) ?_ ?_
                                rotate_left
                                · intro w'
                                  go_simp
                                  with_reducible rfl
                                rotate_left
                                · simp only [Act.put, List.setIfInBounds_toArray, List.set_cons_zero, List.set_cons_succ, i64_w, i32_w]
                                  rfl
                                refine pure_ (i := 11) (N := some 15) (v := ?_) (a' := ?_) #[true, true, true, true, true, true, true, true, true, true, true, true, false, false] rfl rfl (any_of HT_.out (by kernel_rfl)) (fun _ _ _ h => h) (Or.inl ⟨by rfl, ?_⟩) ?_ ?_
                                rotate_left
                                · intro w'
                                  go_simp
                                  with_reducible rfl
                                rotate_left
                                · simp only [Act.put, List.setIfInBounds_toArray, List.set_cons_zero, List.set_cons_succ, i64_w, i32_w]
                                  rfl
                                refine pure_ (i := 12) (N := some 16) (v := ?_) (a' := ?_) #[true, true, true, true, true, true, true, true, true, true, true, true, true, false] rfl rfl (any_of HT_.out (by kernel_rfl)) (fun _ _ _ h => h) (Or.inl ⟨by rfl, ?_⟩) ?_ ?_
                                rotate_left
                                · intro w'
                                  go_simp
                                  with_reducible rfl
                                rotate_left
                                · simp only [Act.put, List.setIfInBounds_toArray, List.set_cons_zero, List.set_cons_succ, i64_w, i32_w]
                                  rfl
                                refine pure_ (i := 13) (N := some 17) (v := ?_) (a' := ?_) #[true, true, true, true, true, true, true, true, true, true, true, true, true, true] rfl rfl (any_of HT_.out (by kernel_rfl)) (fun _ _ _ h => h) (Or.inl ⟨by rfl, ?_⟩) ?_ ?_
                                rotate_left
                                · intro w'
                                  go_simp
                                  with_reducible rfl
                                rotate_left
                                · simp only [Act.put, List.setIfInBounds_toArray, List.set_cons_zero, List.set_cons_succ, i64_w, i32_w]
                                  rfl
                                refine done_ (done_of HT_.out (by kernel_rfl)) ?_
                                try go_wp2
                                go_ret
                                exact ⟨by first | rfl | (simp [errW_none, errW_some] <;> rfl) | (simp [*, errW_none, errW_some] <;> rfl), by repeat (first | (with_reducible first | exact HB.out | apply below_alloc | apply pw_below_drewN | apply below_drew1 | refine below_set ?_ GE115.out | refine below_set ?_ GE122.out | refine below_set ?_ GE127.out) | exact HB.out)⟩
                            · rw [if_neg c51] at H
                              exact absurd H (by simp)
                          · rw [if_neg c50] at H
                            exact absurd H (by simp)
                        · rw [if_neg c49] at H
                          exact absurd H (by simp)
                      · rw [if_neg c48] at H
                        exact absurd H (by simp)
                    · rw [if_neg c47] at H
                      have c47b0 : decide (x52_4 < (y123.length : Int)) = false := decide_eq_false c47
                      clear c47
                      by_cases c108 : (t119.length : Int) ≥ 1
                      · rw [if_pos c108] at H
                        have c108b0 : decide (1 ≤ (t119.length : Int)) = true := decide_eq_true c108
                        have c108b1 : decide (1 ≤ t119.length) = true := decide_eq_true (by omega)
                        clear c108
                        obtain rfl := Option.some.inj H
                        obtain ⟨Ao109, co109, eo109, _⟩ := Kd.Q_slice HO_11.out
                        subst eo109
                        go_wp2
                        go_ret
                        exact ⟨by first | rfl | (simp [errW_none, errW_some] <;> rfl) | (simp [*, errW_none, errW_some] <;> rfl), by repeat (first | (with_reducible first | exact HB.out | apply below_alloc | apply pw_below_drewN | apply below_drew1 | refine below_set ?_ GE115.out | refine below_set ?_ GE122.out) | exact HB.out)⟩
                      · rw [if_neg c108] at H
                        have c108b0 : decide (1 ≤ (t119.length : Int)) = false := decide_eq_false c108
                        have c108b1 : decide (1 ≤ t119.length) = false := decide_eq_false (by omega)
                        clear c108
                        obtain rfl := Option.some.inj H
                        obtain ⟨Ao110, co110, eo110, _⟩ := Kd.Q_slice HO_11.out
                        subst eo110
                        go_wp2
                        go_ret
                        exact ⟨by first | rfl | (simp [errW_none, errW_some] <;> rfl) | (simp [*, errW_none, errW_some] <;> rfl), by repeat (first | (with_reducible first | exact HB.out | apply below_alloc | apply pw_below_drewN | apply below_drew1 | refine below_set ?_ GE115.out | refine below_set ?_ GE122.out) | exact HB.out)⟩

end Go.Proofs.YtggpejjfgphihaaDoor.B
