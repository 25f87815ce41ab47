-- Printed by the session's own turn of the kit's print program (wip/pprint.py): not trusted, Lean checks it.
import Derived.Test.YtggpejjfgphihaaDoorDx0
import Derived.Test.YtggpejjfgphihaaDoorDx4
namespace Go.Proofs.YtggpejjfgphihaaDoor.D
open Go.Proofs.YtggpejjfgphihaaDoor.Given Go.RowKit Go.Proofs.YtggpejjfgphihaaDoorW.PrintWords Go.Proofs.YtggpejjfgphihaaDoorW.PrintLast Go.Proofs.YtggpejjfgphihaaDoorW.PrintMore
attribute [local go_sem] max2_int min2_int max_two min_two max_three min_three max_four min_four   -- for this text's walks alone
set_option linter.unusedVariables false
set_option linter.unusedSimpArgs false

/-! ### marlinelaw02_FcsBursts: function 10 -/
mutual
def marlinelaw02_FcsBursts.j0 : Nat → List Int → Bool → Int → Int → Bool → Option (Bool)
  | 0, _, _, _, _, _ => none
  | k + 1, x0, x1, x2, x3, x20 => if x20 = true then ((marlinelaw02_speaks.f).bind fun t147 => (some t147)) else ((some (([] : List Int) : List Int)).bind fun y148 => (if y148.length + x0.length < 140737488355328 then ((some (y148 ++ x0 : List Int)).bind fun y151 => ((fcs_Trailer.f k x1 x0).bind fun t154 => (if y151.length + t154.length < 140737488355328 then ((some (y151 ++ t154 : List Int)).bind fun y157 => (if (y157.length : Int) = 0 then (some false) else (if x1 = true then (marlinelaw02_FcsBursts.j1 k x1 x2 x3 y157) else (marlinelaw02_FcsBursts.j1 k x1 x2 (Go.bits .and .u32 x3 65535) y157)))) else (none)))) else (none)))
def marlinelaw02_FcsBursts.j1 : Nat → Bool → Int → Int → List Int → Option (Bool)
  | 0, _, _, _, _ => none
  | k + 1, x1, x2, x3, x9 => if (wrap64 (8 * (x9.length : Int))) = 0 then (none) else (marlinelaw02_FcsBursts.l0 k x1 x3 x9 (Int.tmod (wrap64 (x2)) (wrap64 (8 * (x9.length : Int)))) false 0)
def marlinelaw02_FcsBursts.l0 : Nat → Bool → Int → List Int → Int → Bool → Int → Option (Bool)
  | 0, _, _, _, _, _, _ => none
  | k + 1, x1, x3, x9, x10, x11, x42 => if x42 < 32 then (if 0 ≤ x42 then (if (Go.bits .and .u32 (shr .u32 x3 x42) 1) = 1 then (if (wrap64 (x10 + x42)) < (wrap64 (8 * (x9.length : Int))) then (if 0 ≤ (wrap64 (Int.tdiv (wrap64 (x10 + x42)) 8)) then (if (wrap64 (Int.tdiv (wrap64 (x10 + x42)) 8)) < (x9.length : Int) then (if 0 ≤ (Int.tmod (wrap64 (x10 + x42)) 8) then (marlinelaw02_FcsBursts.l0 k x1 x3 (x9.set ((wrap64 (Int.tdiv (wrap64 (x10 + x42)) 8)) : Int).toNat (Go.bits .xor .u8 (rd x9 (wrap64 (Int.tdiv (wrap64 (x10 + x42)) 8))) (shl .u8 1 (Int.tmod (wrap64 (x10 + x42)) 8)))) x10 true (wrap64 (x42 + 1))) else (none)) else (none)) else (none)) else (marlinelaw02_FcsBursts.l0 k x1 x3 x9 x10 x11 (wrap64 (x42 + 1)))) else (marlinelaw02_FcsBursts.l0 k x1 x3 x9 x10 x11 (wrap64 (x42 + 1)))) else (none)) else ((fcs_Good.f x1 x9).bind fun t162 => (some (t162 != x11)))
end
def marlinelaw02_FcsBursts.f (k : Nat) (l0 : List Int) (a1 : Bool) (a2 : Int) (a3 : Int) : Option (Bool) := (marlinelaw02_speaks.f).bind fun t146 => (if t146 = true then (marlinelaw02_FcsBursts.j0 k l0 a1 a2 a3 (decide ((l0.length : Int) > 400))) else (marlinelaw02_FcsBursts.j0 k l0 a1 a2 a3 true))
theorem marlinelaw02_FcsBursts.mono_l : ∀ k, (∀ y0 y1 y2 y3 y4, LeO (marlinelaw02_FcsBursts.j0 k y0 y1 y2 y3 y4) (marlinelaw02_FcsBursts.j0 (k + 1) y0 y1 y2 y3 y4)) ∧ (∀ y0 y1 y2 y3, LeO (marlinelaw02_FcsBursts.j1 k y0 y1 y2 y3) (marlinelaw02_FcsBursts.j1 (k + 1) y0 y1 y2 y3)) ∧ (∀ y0 y1 y2 y3 y4 y5, LeO (marlinelaw02_FcsBursts.l0 k y0 y1 y2 y3 y4 y5) (marlinelaw02_FcsBursts.l0 (k + 1) y0 y1 y2 y3 y4 y5))
  | 0 => ⟨fun _ _ _ _ _ r h => by simp [marlinelaw02_FcsBursts.j0] at h, fun _ _ _ _ r h => by simp [marlinelaw02_FcsBursts.j1] at h, fun _ _ _ _ _ _ r h => by simp [marlinelaw02_FcsBursts.l0] at h⟩
  | k + 1 => by
    obtain ⟨ih0, ih1, ih2⟩ := marlinelaw02_FcsBursts.mono_l k
    refine ⟨?_, ?_, ?_⟩
    · intro y0 y1 y2 y3 y4
      unfold marlinelaw02_FcsBursts.j0
      repeat' first
      | (with_reducible exact ih0 _ _ _ _ _)
      | (with_reducible exact ih1 _ _ _ _)
      | (with_reducible exact ih2 _ _ _ _ _ _)
      | (with_reducible exact fcs_Trailer.mono _ _ _)
      | (with_reducible exact LeO.refl _)
      | (with_reducible exact LeO.none _)
      | (with_reducible refine LeO.ite ?_ ?_)
      | (with_reducible refine LeO.bind ?_ (fun _ => ?_))
      | exact ih0 _ _ _ _ _
      | exact ih1 _ _ _ _
      | exact ih2 _ _ _ _ _ _
      | exact fcs_Trailer.mono _ _ _
      | exact LeO.none _
      | refine LeO.ite ?_ ?_
      | refine LeO.bind ?_ (fun _ => ?_)
    · intro y0 y1 y2 y3
      unfold marlinelaw02_FcsBursts.j1
      repeat' first
      | (with_reducible exact ih0 _ _ _ _ _)
      | (with_reducible exact ih1 _ _ _ _)
      | (with_reducible exact ih2 _ _ _ _ _ _)
      | (with_reducible exact fcs_Trailer.mono _ _ _)
      | (with_reducible exact LeO.refl _)
      | (with_reducible exact LeO.none _)
      | (with_reducible refine LeO.ite ?_ ?_)
      | (with_reducible refine LeO.bind ?_ (fun _ => ?_))
      | exact ih0 _ _ _ _ _
      | exact ih1 _ _ _ _
      | exact ih2 _ _ _ _ _ _
      | exact fcs_Trailer.mono _ _ _
      | exact LeO.none _
      | refine LeO.ite ?_ ?_
      | refine LeO.bind ?_ (fun _ => ?_)
    · intro y0 y1 y2 y3 y4 y5
      unfold marlinelaw02_FcsBursts.l0
      repeat' first
      | (with_reducible exact ih0 _ _ _ _ _)
      | (with_reducible exact ih1 _ _ _ _)
      | (with_reducible exact ih2 _ _ _ _ _ _)
      | (with_reducible exact fcs_Trailer.mono _ _ _)
      | (with_reducible exact LeO.refl _)
      | (with_reducible exact LeO.none _)
      | (with_reducible refine LeO.ite ?_ ?_)
      | (with_reducible refine LeO.bind ?_ (fun _ => ?_))
      | exact ih0 _ _ _ _ _
      | exact ih1 _ _ _ _
      | exact ih2 _ _ _ _ _ _
      | exact fcs_Trailer.mono _ _ _
      | exact LeO.none _
      | refine LeO.ite ?_ ?_
      | refine LeO.bind ?_ (fun _ => ?_)
theorem marlinelaw02_FcsBursts.mono : ∀ a0 a1 a2 a3 k, LeO (marlinelaw02_FcsBursts.f k a0 a1 a2 a3) (marlinelaw02_FcsBursts.f (k + 1) a0 a1 a2 a3) := by
  intro a0 a1 a2 a3 k
  obtain ⟨ih0, ih1, ih2⟩ := marlinelaw02_FcsBursts.mono_l k
  unfold marlinelaw02_FcsBursts.f
  repeat' first
      | (with_reducible exact ih0 _ _ _ _ _)
      | (with_reducible exact ih1 _ _ _ _)
      | (with_reducible exact ih2 _ _ _ _ _ _)
      | (with_reducible exact fcs_Trailer.mono _ _ _)
      | (with_reducible exact LeO.refl _)
      | (with_reducible exact LeO.none _)
      | (with_reducible refine LeO.ite ?_ ?_)
      | (with_reducible refine LeO.bind ?_ (fun _ => ?_))
      | exact ih0 _ _ _ _ _
      | exact ih1 _ _ _ _
      | exact ih2 _ _ _ _ _ _
      | exact fcs_Trailer.mono _ _ _
      | exact LeO.none _
      | refine LeO.ite ?_ ?_
      | refine LeO.bind ?_ (fun _ => ?_)
def marlinelaw02_FcsBursts.T15 : Bool × List (List Nat × List Nat) := (true, [([], []), ([], []), ([1], [1]), ([0, 2], [0, 2]), ([3], [3]), ([], []), ([5], [5]), ([6], [6]), ([4, 7], [4, 7]), ([0, 2, 0, 1, 2, 3, 4, 5, 6, 7, 8], [0, 2]), ([9, 8, 0, 1, 2, 3, 4, 5, 6, 7, 8], [8, 9])])
def marlinelaw02_FcsBursts.B15 : List Nat := [0, 0, 2, 7, 15, 0, 32, 96, 255, 511, 1023]
theorem marlinelaw02_FcsBursts.tab15 : rtab .any (opsOf Tryd.f10 15) = marlinelaw02_FcsBursts.T15 := by kernel_rfl
theorem marlinelaw02_FcsBursts.bits15 : waitsOk marlinelaw02_FcsBursts.T15.2 marlinelaw02_FcsBursts.B15 = true := by kernel_rfl
set_option maxHeartbeats 8000000 in
set_option maxRecDepth 100000 in
theorem marlinelaw02_FcsBursts.calls (k : Nat) (A0 : Option Addr) (c0 : Nat) (l0 : List Int) (a1 : Bool) (a2 : Int) (a3 : Int) (r : Bool) (w : World) (hr0 : Kd.C (Kd.int .u8) w A0 l0.length l0) (hc0 : l0.length ≤ c0) (hgF : GF w) (h : marlinelaw02_FcsBursts.f k l0 a1 a2 a3 = some r) :
    Calls Tryd.prog 10 #[.slice A0 l0.length c0, .bool a1, .int .u16 a2, .int .u32 a3] w fun e w' => e = .returned (.bool r) ∧ Below w.heap.size w w' := by
  have HGF := Aside0.mk hgF
  clear hgF
  have HR0 := Aside0.mk hr0
  have HC0 := Aside0.mk hc0
  clear hr0 hc0
  have HB := Aside0.mk (Below.refl w.heap.size w)
  have H : ((marlinelaw02_speaks.f).bind fun t146 => (if t146 = true then (marlinelaw02_FcsBursts.j0 k l0 a1 a2 a3 (decide ((l0.length : Int) > 400))) else (marlinelaw02_FcsBursts.j0 k l0 a1 a2 a3 true))) = some r := h
  clear h
  have HC5 := Aside0.mk H
  clear H
  go_enter Tryd.func10, Tryd.ntmps10
  go_upto_region 1 with (fail)
  go_cut [20] (fun v20 wc => ∃ (kq : Nat) (x20_4 : Bool), v20 = .bool x20_4 ∧ Aside0 (marlinelaw02_FcsBursts.j0 kq l0 a1 a2 a3 x20_4 = some r) ∧ Aside0 (kq ≤ k) ∧ Aside0 (Below w.heap.size w wc))
  case first =>
    have H := HC5.out
    clear HC5
    replace H := Option.bind_eq_some_iff.mp H
    obtain ⟨t146, A60, H⟩ := H
    replace H : (if t146 = true then (marlinelaw02_FcsBursts.j0 k l0 a1 a2 a3 (decide ((l0.length : Int) > 400))) else (marlinelaw02_FcsBursts.j0 k l0 a1 a2 a3 true)) = some r := H
    have A6 := Aside0.mk A60
    clear A60
    by_cases c7 : t146 = true
    · subst c7
      have H1 : (marlinelaw02_FcsBursts.j0 k l0 a1 a2 a3 (decide ((l0.length : Int) > 400))) = some r := by rw [if_pos rfl] at H; exact H
      clear H
      have H := H1
      clear H1
      have H' := Aside0.mk H
      clear H
      go_wp2_with (first | ((with_reducible refine gate_callee (f := 26) rfl ?_); refine goesL_ (some 14) rfl rfl Tryd.func26 (by kernel_rfl) rfl #[] rfl (by (try simp only [List.map_toArray, List.map_cons, List.map_nil]); first | done | rfl | (simp only [List.length_drop, List.length_take]; rfl)) ?_; (with_reducible refine (marlinelaw02_speaks.calls  true _ ?side1 A6.out).mono ?_); (case side1 => repeat (first | exact (GF_below HGF.out HB.out) | (with_reducible refine GF_alloc ?_ _) | (with_reducible refine GF_drewN ?_ _) | (with_reducible refine GF_drew ?_))); rintro e w8 ⟨rfl, hb⟩; refine ⟨_, rfl, ?_⟩; have n0_ := Aside0.mk (below_step (by repeat (first | (with_reducible first | exact HB.out | apply below_alloc | apply pw_below_drewN | apply below_drew1) | exact HB.out)) hb); clear HB; have HB := n0_; clear n0_; (try clear hb); (try clear hb2); (try clear hk); (try clear hi)))
      go_meet
      case rel => exact ⟨_, (decide ((l0.length : Int) > 400)), (by first | rfl | (simp; done) | (simp [*]; done)), H', ⟨by first | omega | exact Nat.le_refl _⟩, ⟨by repeat (first | (with_reducible first | exact HB.out | apply below_alloc | apply pw_below_drewN | apply below_drew1) | exact HB.out)⟩⟩
    · replace c7 := Bool.eq_false_iff.mpr c7
      subst c7
      have H1 : (marlinelaw02_FcsBursts.j0 k l0 a1 a2 a3 true) = some r := by rw [if_neg (show ¬ (false = true) by decide)] at H; exact H
      clear H
      have H := H1
      clear H1
      have H' := Aside0.mk H
      clear H
      go_wp2_with (first | ((with_reducible refine gate_callee (f := 26) rfl ?_); refine goesL_ (some 14) rfl rfl Tryd.func26 (by kernel_rfl) rfl #[] rfl (by (try simp only [List.map_toArray, List.map_cons, List.map_nil]); first | done | rfl | (simp only [List.length_drop, List.length_take]; rfl)) ?_; (with_reducible refine (marlinelaw02_speaks.calls  false _ ?side1 A6.out).mono ?_); (case side1 => repeat (first | exact (GF_below HGF.out HB.out) | (with_reducible refine GF_alloc ?_ _) | (with_reducible refine GF_drewN ?_ _) | (with_reducible refine GF_drew ?_))); rintro e w9 ⟨rfl, hb⟩; refine ⟨_, rfl, ?_⟩; have n0_ := Aside0.mk (below_step (by repeat (first | (with_reducible first | exact HB.out | apply below_alloc | apply pw_below_drewN | apply below_drew1) | exact HB.out)) hb); clear HB; have HB := n0_; clear n0_; (try clear hb); (try clear hb2); (try clear hk); (try clear hi)))
      go_meet
      case rel => exact ⟨_, (true), (by first | rfl | (simp; done) | (simp [*]; done)), H', ⟨by first | omega | exact Nat.le_refl _⟩, ⟨by repeat (first | (with_reducible first | exact HB.out | apply below_alloc | apply pw_below_drewN | apply below_drew1) | exact HB.out)⟩⟩
  case rest =>
    clear HC5
    try clear c1
    try clear c2
    try clear p2
    try clear c7
    obtain ⟨kq, x20_4, rfl, HA, HJ4, HB⟩ := hcut
    cases kq with
    | zero => exact absurd HA.out (by simp [marlinelaw02_FcsBursts.j0])
    | succ kj4 =>
      have H := HA.out
      clear HA
      simp only [marlinelaw02_FcsBursts.j0] at H
      by_cases c10 : x20_4 = true
      · subst c10
        have H1 : ((marlinelaw02_speaks.f).bind fun t147 => (some t147)) = some r := by rw [if_pos rfl] at H; exact H
        clear H
        have H := H1
        clear H1
        replace H := Option.bind_eq_some_iff.mp H
        obtain ⟨t147, A110, H⟩ := H
        replace H : (some t147) = some r := H
        have A11 := Aside0.mk A110
        clear A110
        obtain rfl := Option.some.inj H
        go_wp2_with (first | ((with_reducible refine gate_callee (f := 26) rfl ?_); refine goesL_ (some 21) rfl rfl Tryd.func26 (by kernel_rfl) rfl #[] rfl (by (try simp only [List.map_toArray, List.map_cons, List.map_nil]); first | done | rfl | (simp only [List.length_drop, List.length_take]; rfl)) ?_; (with_reducible refine (marlinelaw02_speaks.calls  t147 _ ?side1 A11.out).mono ?_); (case side1 => repeat (first | exact (GF_below HGF.out HB.out) | (with_reducible refine GF_alloc ?_ _) | (with_reducible refine GF_drewN ?_ _) | (with_reducible refine GF_drew ?_))); rintro e w12 ⟨rfl, hb⟩; refine ⟨_, rfl, ?_⟩; have n0_ := Aside0.mk (below_step (by repeat (first | (with_reducible first | exact HB.out | apply below_alloc | apply pw_below_drewN | apply below_drew1) | exact HB.out)) hb); clear HB; have HB := n0_; clear n0_; (try clear hb); (try clear hb2); (try clear hk); (try clear hi)))
        go_ret
        exact ⟨by first | rfl | (simp [errW_none, errW_some] <;> rfl) | (simp [*, errW_none, errW_some] <;> rfl), by repeat (first | (with_reducible first | exact HB.out | apply below_alloc | apply pw_below_drewN | apply below_drew1) | exact HB.out)⟩
      · replace c10 := Bool.eq_false_iff.mpr c10
        subst c10
        have H1 : ((some (([] : List Int) : List Int)).bind fun y148 => (if y148.length + l0.length < 140737488355328 then ((some (y148 ++ l0 : List Int)).bind fun y151 => ((fcs_Trailer.f kj4 a1 l0).bind fun t154 => (if y151.length + t154.length < 140737488355328 then ((some (y151 ++ t154 : List Int)).bind fun y157 => (if (y157.length : Int) = 0 then (some false) else (if a1 = true then (marlinelaw02_FcsBursts.j1 kj4 a1 a2 a3 y157) else (marlinelaw02_FcsBursts.j1 kj4 a1 a2 (Go.bits .and .u32 a3 65535) y157)))) else (none)))) else (none))) = some r := by rw [if_neg (show ¬ (false = true) by decide)] at H; exact H
        clear H
        have H := H1
        clear H1
        obtain ⟨y148, hy148⟩ : ∃ y_ : List Int, y_ = (([] : List Int)) := ⟨_, rfl⟩
        replace H : (if y148.length + l0.length < 140737488355328 then ((some (y148 ++ l0 : List Int)).bind fun y151 => ((fcs_Trailer.f kj4 a1 l0).bind fun t154 => (if y151.length + t154.length < 140737488355328 then ((some (y151 ++ t154 : List Int)).bind fun y157 => (if (y157.length : Int) = 0 then (some false) else (if a1 = true then (marlinelaw02_FcsBursts.j1 kj4 a1 a2 a3 y157) else (marlinelaw02_FcsBursts.j1 kj4 a1 a2 (Go.bits .and .u32 a3 65535) y157)))) else (none)))) else (none)) = some r := by first | (rw [hy148]; with_reducible exact H) | (have H2_ := (Option.bind_some _ _).symm.trans H; rw [hy148]; with_reducible exact H2_) | (have H2_ := (Option.bind_some _ _).symm.trans H; with_reducible exact H2_) | with_reducible exact H | (rw [hy148]; exact H) | exact H
        have Ny148 := Aside0.mk hy148
        clear hy148
        by_cases c13 : y148.length + l0.length < 140737488355328
        · rw [if_pos c13] at H
          have LMc13 := Aside0.mk c13
          clear c13
          obtain ⟨y151, hy151⟩ : ∃ y_ : List Int, y_ = (y148 ++ l0) := ⟨_, rfl⟩
          replace H : ((fcs_Trailer.f kj4 a1 l0).bind fun t154 => (if y151.length + t154.length < 140737488355328 then ((some (y151 ++ t154 : List Int)).bind fun y157 => (if (y157.length : Int) = 0 then (some false) else (if a1 = true then (marlinelaw02_FcsBursts.j1 kj4 a1 a2 a3 y157) else (marlinelaw02_FcsBursts.j1 kj4 a1 a2 (Go.bits .and .u32 a3 65535) y157)))) else (none))) = some r := by first | (rw [hy151]; with_reducible exact H) | (have H2_ := (Option.bind_some _ _).symm.trans H; rw [hy151]; with_reducible exact H2_) | (have H2_ := (Option.bind_some _ _).symm.trans H; with_reducible exact H2_) | with_reducible exact H | (rw [hy151]; exact H) | exact H
          have Ny151 := Aside0.mk hy151
          clear hy151
          replace H := Option.bind_eq_some_iff.mp H
          obtain ⟨t154, A140, H⟩ := H
          replace H : (if y151.length + t154.length < 140737488355328 then ((some (y151 ++ t154 : List Int)).bind fun y157 => (if (y157.length : Int) = 0 then (some false) else (if a1 = true then (marlinelaw02_FcsBursts.j1 kj4 a1 a2 a3 y157) else (marlinelaw02_FcsBursts.j1 kj4 a1 a2 (Go.bits .and .u32 a3 65535) y157)))) else (none)) = some r := H
          have A14 := Aside0.mk A140
          clear A140
          by_cases c15 : y151.length + t154.length < 140737488355328
          · rw [if_pos c15] at H
            have LMc15 := Aside0.mk c15
            clear c15
            obtain ⟨y157, hy157⟩ : ∃ y_ : List Int, y_ = (y151 ++ t154) := ⟨_, rfl⟩
            replace H : (if (y157.length : Int) = 0 then (some false) else (if a1 = true then (marlinelaw02_FcsBursts.j1 kj4 a1 a2 a3 y157) else (marlinelaw02_FcsBursts.j1 kj4 a1 a2 (Go.bits .and .u32 a3 65535) y157))) = some r := by first | (rw [hy157]; with_reducible exact H) | (have H2_ := (Option.bind_some _ _).symm.trans H; rw [hy157]; with_reducible exact H2_) | (have H2_ := (Option.bind_some _ _).symm.trans H; with_reducible exact H2_) | with_reducible exact H | (rw [hy157]; exact H) | exact H
            have Ny157 := Aside0.mk hy157
            clear hy157
            by_cases c16 : (y157.length : Int) = 0
            · rw [if_pos c16] at H
              have c16b0 : ((y157.length : Int) == 0) = true := beq_iff_eq.mpr c16
              have c16b1 : ((y157.length : Int) != 0) = false := bne_eq_false_iff_eq.mpr c16
              clear c16
              obtain rfl := Option.some.inj H
              go_wp2_with (first | ((with_reducible refine gate_dst (N := 22) rfl ?_); (try (refine gate_guard (by rfl) ?_; dsimp only)); refine Kd.R_lit (Kd.int .u8) _ 5 ?hg (N := 22) ?hd (xs := ([] : List Int)) (inner := []) (ok := fun _ => True) (okp := fun _ => True) ?hr ?hp (fun _ hk => hk) trivial (Below.refl _ _) (Nat.le_refl _) (by simp) ?_; (case hd => rfl); (case hg => rfl); (case hr => first | (go_simp; done) | (go_simp; rfl)); (case hp => exact (Reps.none _ _)); intro v149 w17 ho18 hb hg_ hnew_; clear hg_ hnew_; (first | rw [← Ny148.out] at ho18 | (simp only [Int.reduceToNat] at ho18; rw [← Ny148.out] at ho18)); have n0_ := Aside0.mk (Kd.R_lower ho18 (below_size (by repeat (first | (with_reducible first | exact HB.out | apply below_alloc | apply pw_below_drewN | apply below_drew1) | exact HB.out)))); have n1_ := Aside0.mk (below_step (by repeat (first | (with_reducible first | exact HB.out | apply below_alloc | apply pw_below_drewN | apply below_drew1) | exact HB.out)) hb); clear HB; have HO150 := n0_; have HB := n1_; clear n0_ n1_; clear hb ho18) | ((with_reducible refine gate_builtin (b := .append) (xs := #[.tmp 22, .tmp 23]) rfl ?_); (try (refine gate_guard (by rfl) ?_; dsimp only)); at_builtin; refine Kd.R_append_rows (Kd.int .u8) (w0 := w) w.heap.size rfl (.tmp 22) (.tmp 23) 35 5 (.int .u8 0) 1 rfl Tryd.underlying35 info5 rfl (by decide) (by omega) v149 y148 l0 _ _ _ (fun _ => True) (fun _ => False) rfl rfl ?aO ?aR (fun _ _ h => h) (fun _ h => h.elim) ?aF ?aB ?aS ?aL ?_; (case aR => repeat (first | exact (Kd.C_below HR0.out HB.out) | (with_reducible refine Kd.C_alloc ?_ _) | (with_reducible refine Kd.C_drewN ?_ _) | (with_reducible refine Kd.C_drew ?_))); (case aB => exact (by repeat (first | (with_reducible first | exact HB.out | apply below_alloc | apply pw_below_drewN | apply below_drew1) | exact HB.out))); (case aF => exact (fun _ _ => trivial)); (case aO => exact (by (with_reducible repeat (first | apply Kd.R_alloc | apply Kd.R_drewN | apply Kd.R_drew)); exact HO150.out)); (case aS => exact (below_size (by repeat (first | (with_reducible first | exact HB.out | apply below_alloc | apply pw_below_drewN | apply below_drew1) | exact HB.out)))); (case aL => have := LMc13.out; omega); intro v152 w19 ho hb hg hat; rw [← Ny151.out] at ho; have n0_ := Aside0.mk (hb); have n1_ := Aside0.mk (ho); clear HB; clear HO150; have HB := n0_; have HO153 := n1_; clear n0_ n1_; clear ho hb hg hat) | ((with_reducible refine gate_callee (f := 40) rfl ?_); refine goesL_ (some 27) rfl rfl Tryd.func40 (by kernel_rfl) rfl #[.bool a1, .slice A0 l0.length c0] rfl (by (try simp only [List.map_toArray, List.map_cons, List.map_nil]); first | done | rfl | (simp only [List.length_drop, List.length_take]; rfl)) ?_; (with_reducible refine (fcs_Trailer.calls kj4 a1 _ _ l0 t154 _ ?side1 ?side2 ?side3 A14.out).mono ?_); (case side1 => repeat (first | exact (Kd.C_below HR0.out HB.out) | (with_reducible refine Kd.C_alloc ?_ _) | (with_reducible refine Kd.C_drewN ?_ _) | (with_reducible refine Kd.C_drew ?_))); (case side2 => exact HC0.out); (case side3 => repeat (first | exact (GF_below HGF.out HB.out) | (with_reducible refine GF_alloc ?_ _) | (with_reducible refine GF_drewN ?_ _) | (with_reducible refine GF_drew ?_))); rintro e w20 ⟨v155, rfl, ho0, hb⟩; refine ⟨_, rfl, ?_⟩; have n0_ := Aside0.mk (Kd.R_elder' (by (with_reducible repeat (first | apply Kd.R_alloc | apply Kd.R_drewN | apply Kd.R_drew)); exact HO153.out) (Kd.R_base ho0) hb); have n1_ := Aside0.mk (Kd.R_lower (Kd.R_new' ho0 (Kd.R_lt (by (with_reducible repeat (first | apply Kd.R_alloc | apply Kd.R_drewN | apply Kd.R_drew)); exact HO153.out))) (below_size (by repeat (first | (with_reducible first | exact HB.out | apply below_alloc | apply pw_below_drewN | apply below_drew1) | exact HB.out)))); have n2_ := Aside0.mk (below_step (by repeat (first | (with_reducible first | exact HB.out | apply below_alloc | apply pw_below_drewN | apply below_drew1) | exact HB.out)) hb); clear HO153; clear HB; have HO153 := n0_; have HO156 := n1_; have HB := n2_; clear n0_ n1_ n2_; (try clear hb); (try clear hb2); (try clear hk); (try clear hi); (try clear ho0); obtain ⟨Ao22, co22, eo22⟩ := Kd.R_slice HO156.out; subst eo22) | ((with_reducible refine gate_builtin (b := .append) (xs := #[.tmp 24, .tmp 27]) rfl ?_); (try (refine gate_guard (by rfl) ?_; dsimp only)); at_builtin; refine Kd.R_append_rows (Kd.int .u8) (w0 := w) w.heap.size rfl (.tmp 24) (.tmp 27) 35 5 (.int .u8 0) 1 rfl Tryd.underlying35 info5 rfl (by decide) (by omega) v152 y151 t154 _ _ _ (fun k_ => some k_ ≠ (.slice Ao22 t154.length co22 : Value).ownBlock) (fun _ => False) rfl rfl ?aO ?aR (fun _ _ h => h) (fun _ h => h.elim) ?aF ?aB ?aS ?aL ?_; (case aR => repeat (first | exact (Kd.R_reads' HO156.out).2.2 | (with_reducible refine Kd.C_alloc ?_ _) | (with_reducible refine Kd.C_drewN ?_ _) | (with_reducible refine Kd.C_drew ?_))); (case aB => exact (by repeat (first | (with_reducible first | exact HB.out | apply below_alloc | apply pw_below_drewN | apply below_drew1) | exact HB.out))); (case aF => exact (fun k_ hk => Kd.fresh' (Kd.R_lt (by (with_reducible repeat (first | apply Kd.R_alloc | apply Kd.R_drewN | apply Kd.R_drew)); exact HO156.out)) k_ hk)); (case aO => exact (by (with_reducible repeat (first | apply Kd.R_alloc | apply Kd.R_drewN | apply Kd.R_drew)); exact Kd.R_mono HO153.out (fun _ hk => hk.2))); (case aS => exact (below_size (by repeat (first | (with_reducible first | exact HB.out | apply below_alloc | apply pw_below_drewN | apply below_drew1) | exact HB.out)))); (case aL => have := LMc15.out; omega); intro v158 w21 ho hb hg hat; rw [← Ny157.out] at ho; have n0_ := Aside0.mk (Kd.R_after (ok := (fun _ => True)) (by (with_reducible repeat (first | apply Kd.R_alloc | apply Kd.R_drewN | apply Kd.R_drew)); exact HO156.out) hg hat); have n1_ := Aside0.mk (hb); have n2_ := Aside0.mk (ho); clear HO156; clear HB; clear HO153; have HO156 := n0_; have HB := n1_; have HO159 := n2_; clear n0_ n1_ n2_; clear ho hb hg hat; obtain ⟨Ao23, co23, eo23⟩ := Kd.R_slice HO159.out; subst eo23))
              go_ret
              exact ⟨by first | rfl | (simp [errW_none, errW_some] <;> rfl) | (simp [*, errW_none, errW_some] <;> rfl), by repeat (first | (with_reducible first | exact HB.out | apply below_alloc | apply pw_below_drewN | apply below_drew1) | exact HB.out)⟩
            · rw [if_neg c16] at H
              have c16b0 : ((y157.length : Int) == 0) = false := beq_eq_false_iff_ne.mpr c16
              have c16b1 : ((y157.length : Int) != 0) = true := bne_iff_ne.mpr c16
              have c16b2 : ¬ (y157 = []) := fun h_ => c16 (by rw [h_]; rfl)
              have HC24 := Aside0.mk H
              clear H
              go_upto_if 33 with (first | ((with_reducible refine gate_dst (N := 22) rfl ?_); (try (refine gate_guard (by rfl) ?_; dsimp only)); refine Kd.R_lit (Kd.int .u8) _ 5 ?hg (N := 22) ?hd (xs := ([] : List Int)) (inner := []) (ok := fun _ => True) (okp := fun _ => True) ?hr ?hp (fun _ hk => hk) trivial (Below.refl _ _) (Nat.le_refl _) (by simp) ?_; (case hd => rfl); (case hg => rfl); (case hr => first | (go_simp; done) | (go_simp; rfl)); (case hp => exact (Reps.none _ _)); intro v149 w25 ho26 hb hg_ hnew_; clear hg_ hnew_; (first | rw [← Ny148.out] at ho26 | (simp only [Int.reduceToNat] at ho26; rw [← Ny148.out] at ho26)); have n0_ := Aside0.mk (Kd.R_lower ho26 (below_size (by repeat (first | (with_reducible first | exact HB.out | apply below_alloc | apply pw_below_drewN | apply below_drew1) | exact HB.out)))); have n1_ := Aside0.mk (below_step (by repeat (first | (with_reducible first | exact HB.out | apply below_alloc | apply pw_below_drewN | apply below_drew1) | exact HB.out)) hb); clear HB; have HO150 := n0_; have HB := n1_; clear n0_ n1_; clear hb ho26) | ((with_reducible refine gate_builtin (b := .append) (xs := #[.tmp 22, .tmp 23]) rfl ?_); (try (refine gate_guard (by rfl) ?_; dsimp only)); at_builtin; refine Kd.R_append_rows (Kd.int .u8) (w0 := w) w.heap.size rfl (.tmp 22) (.tmp 23) 35 5 (.int .u8 0) 1 rfl Tryd.underlying35 info5 rfl (by decide) (by omega) v149 y148 l0 _ _ _ (fun _ => True) (fun _ => False) rfl rfl ?aO ?aR (fun _ _ h => h) (fun _ h => h.elim) ?aF ?aB ?aS ?aL ?_; (case aR => repeat (first | exact (Kd.C_below HR0.out HB.out) | (with_reducible refine Kd.C_alloc ?_ _) | (with_reducible refine Kd.C_drewN ?_ _) | (with_reducible refine Kd.C_drew ?_))); (case aB => exact (by repeat (first | (with_reducible first | exact HB.out | apply below_alloc | apply pw_below_drewN | apply below_drew1) | exact HB.out))); (case aF => exact (fun _ _ => trivial)); (case aO => exact (by (with_reducible repeat (first | apply Kd.R_alloc | apply Kd.R_drewN | apply Kd.R_drew)); exact HO150.out)); (case aS => exact (below_size (by repeat (first | (with_reducible first | exact HB.out | apply below_alloc | apply pw_below_drewN | apply below_drew1) | exact HB.out)))); (case aL => have := LMc13.out; omega); intro v152 w27 ho hb hg hat; rw [← Ny151.out] at ho; have n0_ := Aside0.mk (hb); have n1_ := Aside0.mk (ho); clear HB; clear HO150; have HB := n0_; have HO153 := n1_; clear n0_ n1_; clear ho hb hg hat) | ((with_reducible refine gate_callee (f := 40) rfl ?_); refine goesL_ (some 27) rfl rfl Tryd.func40 (by kernel_rfl) rfl #[.bool a1, .slice A0 l0.length c0] rfl (by (try simp only [List.map_toArray, List.map_cons, List.map_nil]); first | done | rfl | (simp only [List.length_drop, List.length_take]; rfl)) ?_; (with_reducible refine (fcs_Trailer.calls kj4 a1 _ _ l0 t154 _ ?side1 ?side2 ?side3 A14.out).mono ?_); (case side1 => repeat (first | exact (Kd.C_below HR0.out HB.out) | (with_reducible refine Kd.C_alloc ?_ _) | (with_reducible refine Kd.C_drewN ?_ _) | (with_reducible refine Kd.C_drew ?_))); (case side2 => exact HC0.out); (case side3 => repeat (first | exact (GF_below HGF.out HB.out) | (with_reducible refine GF_alloc ?_ _) | (with_reducible refine GF_drewN ?_ _) | (with_reducible refine GF_drew ?_))); rintro e w28 ⟨v155, rfl, ho0, hb⟩; refine ⟨_, rfl, ?_⟩; have n0_ := Aside0.mk (Kd.R_elder' (by (with_reducible repeat (first | apply Kd.R_alloc | apply Kd.R_drewN | apply Kd.R_drew)); exact HO153.out) (Kd.R_base ho0) hb); have n1_ := Aside0.mk (Kd.R_lower (Kd.R_new' ho0 (Kd.R_lt (by (with_reducible repeat (first | apply Kd.R_alloc | apply Kd.R_drewN | apply Kd.R_drew)); exact HO153.out))) (below_size (by repeat (first | (with_reducible first | exact HB.out | apply below_alloc | apply pw_below_drewN | apply below_drew1) | exact HB.out)))); have n2_ := Aside0.mk (below_step (by repeat (first | (with_reducible first | exact HB.out | apply below_alloc | apply pw_below_drewN | apply below_drew1) | exact HB.out)) hb); clear HO153; clear HB; have HO153 := n0_; have HO156 := n1_; have HB := n2_; clear n0_ n1_ n2_; (try clear hb); (try clear hb2); (try clear hk); (try clear hi); (try clear ho0); obtain ⟨Ao30, co30, eo30⟩ := Kd.R_slice HO156.out; subst eo30) | ((with_reducible refine gate_builtin (b := .append) (xs := #[.tmp 24, .tmp 27]) rfl ?_); (try (refine gate_guard (by rfl) ?_; dsimp only)); at_builtin; refine Kd.R_append_rows (Kd.int .u8) (w0 := w) w.heap.size rfl (.tmp 24) (.tmp 27) 35 5 (.int .u8 0) 1 rfl Tryd.underlying35 info5 rfl (by decide) (by omega) v152 y151 t154 _ _ _ (fun k_ => some k_ ≠ (.slice Ao30 t154.length co30 : Value).ownBlock) (fun _ => False) rfl rfl ?aO ?aR (fun _ _ h => h) (fun _ h => h.elim) ?aF ?aB ?aS ?aL ?_; (case aR => repeat (first | exact (Kd.R_reads' HO156.out).2.2 | (with_reducible refine Kd.C_alloc ?_ _) | (with_reducible refine Kd.C_drewN ?_ _) | (with_reducible refine Kd.C_drew ?_))); (case aB => exact (by repeat (first | (with_reducible first | exact HB.out | apply below_alloc | apply pw_below_drewN | apply below_drew1) | exact HB.out))); (case aF => exact (fun k_ hk => Kd.fresh' (Kd.R_lt (by (with_reducible repeat (first | apply Kd.R_alloc | apply Kd.R_drewN | apply Kd.R_drew)); exact HO156.out)) k_ hk)); (case aO => exact (by (with_reducible repeat (first | apply Kd.R_alloc | apply Kd.R_drewN | apply Kd.R_drew)); exact Kd.R_mono HO153.out (fun _ hk => hk.2))); (case aS => exact (below_size (by repeat (first | (with_reducible first | exact HB.out | apply below_alloc | apply pw_below_drewN | apply below_drew1) | exact HB.out)))); (case aL => have := LMc15.out; omega); intro v158 w29 ho hb hg hat; rw [← Ny157.out] at ho; have n0_ := Aside0.mk (Kd.R_after (ok := (fun _ => True)) (by (with_reducible repeat (first | apply Kd.R_alloc | apply Kd.R_drewN | apply Kd.R_drew)); exact HO156.out) hg hat); have n1_ := Aside0.mk (hb); have n2_ := Aside0.mk (ho); clear HO156; clear HB; clear HO153; have HO156 := n0_; have HB := n1_; have HO159 := n2_; clear n0_ n1_ n2_; clear ho hb hg hat; obtain ⟨Ao31, co31, eo31⟩ := Kd.R_slice HO159.out; subst eo31))
              (try simp only [Act.put, List.setIfInBounds_toArray, List.set_cons_zero, List.set_cons_succ])
              go_cut [3] (fun v3 wc => ∃ (kq : Nat) (x3_23 : Int), v3 = .int .u32 x3_23 ∧ Aside0 (marlinelaw02_FcsBursts.j1 kq a1 a2 x3_23 y157 = some r) ∧ Aside0 (kq ≤ kj4) ∧ Aside0 (Kd.R (Kd.int .u8) 5 wc w.heap.size (fun _ => True) (.slice Ao31 y157.length co31) y157) ∧ Aside0 (Below w.heap.size w wc))
              case first =>
                have H := HC24.out
                clear HC24
                by_cases c32 : a1 = true
                · subst c32
                  have H1 : (marlinelaw02_FcsBursts.j1 kj4 true a2 a3 y157) = some r := by rw [if_pos rfl] at H; exact H
                  clear H
                  have H := H1
                  clear H1
                  have H' := Aside0.mk H
                  clear H
                  go_wp2
                  go_meet
                  case rel => exact ⟨_, (a3), (by first | rfl | (simp; done) | (simp [*]; done)), H', ⟨by have := HJ4.out; first | omega | exact Nat.le_refl _⟩, ⟨by (with_reducible repeat (first | apply Kd.R_alloc | apply Kd.R_drewN | apply Kd.R_drew)); exact Kd.R_mono HO159.out (fun _ hk => trivial)⟩, ⟨by repeat (first | (with_reducible first | exact HB.out | apply below_alloc | apply pw_below_drewN | apply below_drew1) | exact HB.out)⟩⟩
                · replace c32 := Bool.eq_false_iff.mpr c32
                  subst c32
                  have H1 : (marlinelaw02_FcsBursts.j1 kj4 false a2 (Go.bits .and .u32 a3 65535) y157) = some r := by rw [if_neg (show ¬ (false = true) by decide)] at H; exact H
                  clear H
                  have H := H1
                  clear H1
                  have H' := Aside0.mk H
                  clear H
                  go_wp2
                  go_meet
                  case rel => exact ⟨_, (Go.bits .and .u32 a3 65535), (by first | rfl | (simp; done) | (simp [*]; done)), H', ⟨by have := HJ4.out; first | omega | exact Nat.le_refl _⟩, ⟨by (with_reducible repeat (first | apply Kd.R_alloc | apply Kd.R_drewN | apply Kd.R_drew)); exact Kd.R_mono HO159.out (fun _ hk => trivial)⟩, ⟨by repeat (first | (with_reducible first | exact HB.out | apply below_alloc | apply pw_below_drewN | apply below_drew1) | exact HB.out)⟩⟩
              case rest =>
                clear HC24
                try clear c1
                try clear c2
                try clear p2
                try clear c3
                try clear c4
                try clear c7
                try clear c10
                try clear c13
                try clear c15
                try clear c16
                try clear c16b0
                try clear c16b1
                try clear c16b2
                try clear c26
                try clear c32
                try clear p2
                obtain ⟨kq, x3_23, rfl, HA, HJ23, HO_9, HB⟩ := hcut
                cases kq with
                | zero => exact absurd HA.out (by simp [marlinelaw02_FcsBursts.j1])
                | succ kj23 =>
                  have H := HA.out
                  clear HA
                  simp only [marlinelaw02_FcsBursts.j1] at H
                  by_cases c33 : (wrap64 (8 * (y157.length : Int))) = 0
                  · rw [if_pos c33] at H
                    exact absurd H (by simp)
                  · rw [if_neg c33] at H
                    have c33b0 : ((wrap64 (8 * (y157.length : Int))) == 0) = false := beq_eq_false_iff_ne.mpr c33
                    have c33b1 : ((wrap64 (8 * (y157.length : Int))) != 0) = true := bne_iff_ne.mpr c33
                    obtain ⟨fi, hfi⟩ : ∃ j_ : Int, (Int.tmod (wrap64 (a2)) (wrap64 (8 * (y157.length : Int)))) = j_ := ⟨_, rfl⟩
                    rw [hfi] at H
                    have H' := Aside0.mk H
                    clear H
                    go_wp2
                    clear hfi
                    go_loopg [11, 42] kj23 (fun kq v11 v42 w' => ∃ (x9_3 : List Int) (x11_3 : Bool) (x42_3 : Int), v11 = .bool x11_3 ∧ v42 = .int .i64 x42_3 ∧ Aside0 (marlinelaw02_FcsBursts.l0 kq a1 x3_23 x9_3 fi x11_3 x42_3 = some r) ∧ Aside0 (kq ≤ kj23) ∧ Aside0 (Kd.R (Kd.int .u8) 5 w' w.heap.size (fun _ => True) (.slice Ao31 y157.length co31) x9_3) ∧ Aside0 (Below w.heap.size w w'))
                    case atStart => exact ⟨(y157), (false), (0), (by first | rfl | (simp; done) | (simp [*]; done)), (by first | rfl | (simp; done) | (simp [*]; done)), H', ⟨Nat.le_refl _⟩, ⟨by (with_reducible repeat (first | apply Kd.R_alloc | apply Kd.R_drewN | apply Kd.R_drew)); exact HO_9.out⟩, ⟨by repeat (first | (with_reducible first | exact HB.out | apply below_alloc | apply pw_below_drewN | apply below_drew1) | exact HB.out)⟩⟩
                    case round =>
                      clear H'
                      try clear c1
                      try clear c2
                      try clear p2
                      try clear c3
                      try clear c4
                      try clear p6
                      try clear c7
                      try clear c10
                      try clear c13
                      try clear c15
                      try clear c16
                      try clear c16b0
                      try clear c16b1
                      try clear c16b2
                      try clear c26
                      try clear c32
                      try clear c33
                      try clear c33b0
                      try clear c33b1
                      try clear p2
                      obtain ⟨x9_3, x11_3, x42_3, rfl, rfl, HA, HK3, HO_9, HB⟩ := hrel
                      have hl9_3 := (Kd.R_reads' HO_9.out).1
                      rw [hl9_3] at HO_9
                      (try simp only [hl9_3])
                      cases gk with
                      | zero => exact absurd HA.out (by simp [marlinelaw02_FcsBursts.l0])
                      | succ k3 =>
                        have H := HA.out
                        clear HA
                        simp only [marlinelaw02_FcsBursts.l0] at H
                        by_cases c34 : x42_3 < 32
                        · rw [if_pos c34] at H
                          have c34b0 : decide (x42_3 < 32) = true := decide_eq_true c34
                          clear c34
                          by_cases c35 : 0 ≤ x42_3
                          · rw [if_pos c35] at H
                            have c35b0 := eq_true c35
                            have c35b1 : decide (0 ≤ x42_3) = true := decide_eq_true c35
                            clear c35
                            obtain ⟨ji36, hji36⟩ : ∃ j_ : Int, (shr .u32 x3_23 x42_3) = j_ := ⟨_, rfl⟩
                            replace H : (if (Go.bits .and .u32 (ji36) 1) = 1 then (if (wrap64 (fi + x42_3)) < (wrap64 (8 * (x9_3.length : Int))) then (if 0 ≤ (wrap64 (Int.tdiv (wrap64 (fi + x42_3)) 8)) then (if (wrap64 (Int.tdiv (wrap64 (fi + x42_3)) 8)) < (x9_3.length : Int) then (if 0 ≤ (Int.tmod (wrap64 (fi + x42_3)) 8) then (marlinelaw02_FcsBursts.l0 k3 a1 x3_23 (x9_3.set ((wrap64 (Int.tdiv (wrap64 (fi + x42_3)) 8)) : Int).toNat (Go.bits .xor .u8 (rd x9_3 (wrap64 (Int.tdiv (wrap64 (fi + x42_3)) 8))) (shl .u8 1 (Int.tmod (wrap64 (fi + x42_3)) 8)))) fi true (wrap64 (x42_3 + 1))) else (none)) else (none)) else (none)) else (marlinelaw02_FcsBursts.l0 k3 a1 x3_23 x9_3 fi x11_3 (wrap64 (x42_3 + 1)))) else (marlinelaw02_FcsBursts.l0 k3 a1 x3_23 x9_3 fi x11_3 (wrap64 (x42_3 + 1)))) = some r := by first | (rw [hji36] at H; exact H) | (simp only [hji36] at H ⊢; exact H)
                            have hji36_ : (x3_23 / 2 ^ min x42_3.toNat 32) = ji36 := hji36
                            have hji36z : x42_3 ≤ 32 → (x3_23 / 2 ^ x42_3.toNat) = ji36 := shr_small hji36
                            by_cases c37 : (Go.bits .and .u32 (ji36) 1) = 1
                            · rw [if_pos c37] at H
                              have c37b0 : ((Go.bits .and .u32 (ji36) 1) == 1) = true := beq_iff_eq.mpr c37
                              have c37b1 : ((Go.bits .and .u32 (ji36) 1) != 1) = false := bne_eq_false_iff_eq.mpr c37
                              clear c37
                              by_cases c38 : (wrap64 (fi + x42_3)) < (wrap64 (8 * (x9_3.length : Int)))
                              · rw [if_pos c38] at H
                                have c38b0 : decide ((wrap64 (fi + x42_3)) < (wrap64 (8 * (x9_3.length : Int)))) = true := decide_eq_true c38
                                clear c38
                                obtain ⟨ji39, hji39⟩ : ∃ j_ : Int, (wrap64 (Int.tdiv (wrap64 (fi + x42_3)) 8)) = j_ := ⟨_, rfl⟩
                                replace H : (if 0 ≤ (ji39) then (if (ji39) < (x9_3.length : Int) then (if 0 ≤ (Int.tmod (wrap64 (fi + x42_3)) 8) then (marlinelaw02_FcsBursts.l0 k3 a1 x3_23 (x9_3.set ((ji39) : Int).toNat (Go.bits .xor .u8 (rd x9_3 (ji39)) (shl .u8 1 (Int.tmod (wrap64 (fi + x42_3)) 8)))) fi true (wrap64 (x42_3 + 1))) else (none)) else (none)) else (none)) = some r := by first | (rw [hji39] at H; exact H) | (simp only [hji39] at H ⊢; exact H)
                                have hji39w : (IntKind.i64.wrap (Int.tdiv (wrap64 (fi + x42_3)) 8)) = ji39 := (i64_w _).trans hji39
                                by_cases c40 : 0 ≤ (ji39)
                                · rw [if_pos c40] at H
                                  have c40b0 : decide (0 ≤ (ji39)) = true := decide_eq_true c40
                                  clear c40
                                  by_cases c41 : (ji39) < (x9_3.length : Int)
                                  · rw [if_pos c41] at H
                                    have c41b0 : decide ((ji39) < (x9_3.length : Int)) = true := decide_eq_true c41
                                    clear c41
                                    obtain ⟨ji42, hji42⟩ : ∃ j_ : Int, (Int.tmod (wrap64 (fi + x42_3)) 8) = j_ := ⟨_, rfl⟩
                                    replace H : (if 0 ≤ (ji42) then (marlinelaw02_FcsBursts.l0 k3 a1 x3_23 (x9_3.set ((ji39) : Int).toNat (Go.bits .xor .u8 (rd x9_3 (ji39)) (shl .u8 1 (ji42)))) fi true (wrap64 (x42_3 + 1))) else (none)) = some r := by first | (rw [hji42] at H; exact H) | (simp only [hji42] at H ⊢; exact H)
                                    by_cases c43 : 0 ≤ (ji42)
                                    · rw [if_pos c43] at H
                                      have c43b0 := eq_true c43
                                      have c43b1 : decide (0 ≤ (ji42)) = true := decide_eq_true c43
                                      clear c43
                                      obtain ⟨ji44, hji44⟩ : ∃ j_ : Int, (shl .u8 1 (ji42)) = j_ := ⟨_, rfl⟩
                                      replace H : (marlinelaw02_FcsBursts.l0 k3 a1 x3_23 (x9_3.set ((ji39) : Int).toNat (Go.bits .xor .u8 (rd x9_3 (ji39)) (ji44))) fi true (wrap64 (x42_3 + 1))) = some r := by first | (rw [hji44] at H; exact H) | (simp only [hji44] at H ⊢; exact H)
                                      have hji44_ : (IntKind.u8.wrap (1 * 2 ^ min (ji42).toNat 8)) = ji44 := hji44
                                      have hji44z : (ji42) ≤ 8 → (IntKind.u8.wrap (1 * 2 ^ (ji42).toNat)) = ji44 := shl_small hji44
                                      have hji44u : (IntKind.u8.wrap (2 ^ min (ji42).toNat 8)) = ji44 := by have h_ := hji44_; rw [Int.one_mul] at h_; exact h_
                                      have hji44v : (ji42) ≤ 8 → (IntKind.u8.wrap (2 ^ (ji42).toNat)) = ji44 := fun hle_ => by have h_ := hji44z hle_; rw [Int.one_mul] at h_; exact h_
                                      obtain ⟨y161, hy161⟩ : ∃ y_ : List Int, y_ = (x9_3.set ((ji39) : Int).toNat (Go.bits .xor .u8 (rd x9_3 (ji39)) (ji44))) := ⟨_, rfl⟩
                                      replace H : (marlinelaw02_FcsBursts.l0 k3 a1 x3_23 y161 fi true (wrap64 (x42_3 + 1))) = some r := by first | (rw [hy161]; with_reducible exact H) | (have H2_ := (Option.bind_some _ _).symm.trans H; rw [hy161]; with_reducible exact H2_) | (have H2_ := (Option.bind_some _ _).symm.trans H; with_reducible exact H2_) | with_reducible exact H | (rw [hy161]; exact H) | exact H
                                      have Ny161 := Aside0.mk hy161
                                      clear hy161
                                      have H' := Aside0.mk H
                                      clear H
                                      try go_wp2
                                      have n0_ := Aside0.mk (Kd.R_drew HO_9.out)
                                      have n1_ := Aside0.mk (below_drew1 HB.out)
                                      clear HO_9
                                      clear HB
                                      have HO_9 := n0_
                                      have HB := n1_
                                      clear n0_ n1_
                                      have p160 : 0 ≤ ((ji39) : Int) := of_decide_eq_true (by first | (with_reducible assumption) | assumption)
                                      have q160 : (ji39) < (x9_3.length : Int) := of_decide_eq_true (by first | (with_reducible assumption) | assumption)
                                      obtain ⟨ad160, e160, hx160_0⟩ := Kd.at_int (Kd.R_reads' HO_9.out).2.2 (ji39) p160 q160
                                      cases e160
                                      replace p160 := eq_true p160
                                      replace q160 := eq_true q160
                                      have p45 : 0 ≤ ((ji39) : Int) := of_decide_eq_true (by first | (with_reducible assumption) | assumption)
                                      have q45 : ((ji39) : Int) < ((x9_3.length : Int) : Int) := of_decide_eq_true (by first | (with_reducible assumption) | assumption)
                                      obtain ⟨go45, co45, eo45, gb45, gl45, cl45, HG45⟩ := Kd.R_form HO_9.out (by omega)
                                      (first | cases eo45 | (injection eo45 with ea_ en_ ec_; (first | subst ea_ | (injection ea_ with ea_; subst ea_)); subst ec_; clear en_))
                                      have GB45 := Aside0.mk gb45
                                      have GG45 := Aside0.mk HG45
                                      clear gb45 gl45 HG45
                                      (first | simp only [add_plain] at hx160_0 | skip)
                                      obtain ⟨hx45_0, hf45_0⟩ := Kd.R_celln 0 HO_9.out ((ji39) : Int) p45 q45
                                      replace p45 := eq_true p45
                                      replace q45 := eq_true q45
                                      have HP47 := Kd.R_putn HO_9.out ((ji39) : Int) (Go.bits .xor .u8 (rd x9_3 (ji39)) (ji44))
                                      rw [← Ny161.out] at HP47
                                      have HQ47 := Aside0.mk HP47
                                      clear HP47
                                      refine start_ (n := 11) (S := fun w' => w'.cell? ⟨go45, ((ji39)).toNat, none⟩ = some (.int .u8 (rd x9_3 (ji39)))) (ds := [10]) #[false, false, false, false, false, false, false, false, false, false, false] (by kernel_rfl) rfl rfl (hx160_0) (fun hHeld => ?_); refine with_tabW marlinelaw02_FcsBursts.tab15 marlinelaw02_FcsBursts.bits15 (fun HT_ HW_ => ?_)
                                      generalize wr.drew = w46 at HO_9 HB GG45 HQ47 hf45_0 hx160_0 hx45_0 hHeld ⊢
                                      refine pure_ (i := 0) (N := some 60) (v := ?_) (a' := ?_) #[true, false, false, false, false, false, false, false, false, false, false] rfl rfl (any_of HT_.out (by kernel_rfl)) (fun _ _ _ h => h) (Or.inl ⟨by rfl, ?_⟩) ?_ ?_
                                      rotate_left
                                      · intro w'
                                        go_simp
                                        with_reducible rfl
                                      rotate_left
                                      · simp only [Act.put, List.setIfInBounds_toArray, List.set_cons_zero, List.set_cons_succ, i64_w, i32_w]
                                        rfl
                                      refine pure_ (i := 1) (N := some 61) (v := ?_) (a' := ?_) #[true, true, false, false, false, false, false, false, false, false, false] rfl rfl (any_of HT_.out (by kernel_rfl)) (fun _ _ _ h => h) (Or.inl ⟨by rfl, ?_⟩) ?_ ?_
                                      rotate_left
                                      · intro w'
                                        go_simp
                                        with_reducible rfl
                                      rotate_left
                                      · simp only [Act.put, List.setIfInBounds_toArray, List.set_cons_zero, List.set_cons_succ, i64_w, i32_w]
                                        rfl
                                      refine pure_ (i := 2) (N := some 62) (v := ?_) (a' := ?_) #[true, true, true, false, false, false, false, false, false, false, false] rfl rfl (any_of HT_.out (by kernel_rfl)) (fun _ _ _ h => h) (Or.inl ⟨by rfl, ?_⟩) ?_ ?_
                                      rotate_left
                                      · intro w'
                                        go_simp
                                        with_reducible rfl
                                      rotate_left
                                      · simp only [Act.put, List.setIfInBounds_toArray, List.set_cons_zero, List.set_cons_succ, i64_w, i32_w]
                                        rfl
                                      refine pure_ (i := 3) (N := some 63) (v := ?_) (a' := ?_) #[true, true, true, true, false, false, false, false, false, false, false] rfl rfl (any_of HT_.out (by kernel_rfl)) (fun _ _ _ h => h) (Or.inl ⟨by rfl, ?_⟩) ?_ ?_
                                      rotate_left
                                      · intro w'
                                        go_simp
                                        with_reducible rfl
                                      rotate_left
                                      · simp only [Act.put, List.setIfInBounds_toArray, List.set_cons_zero, List.set_cons_succ, i64_w, i32_w]
                                        rfl
                                      refine pure_ (i := 5) (N := some 65) (v := ?_) (a' := ?_) #[true, true, true, true, false, true, false, false, false, false, false] rfl rfl (any_of HT_.out (by kernel_rfl)) (fun _ _ _ h => h) (Or.inl ⟨by rfl, ?_⟩) ?_ ?_
                                      rotate_left
                                      · intro w'
                                        go_simp
                                        with_reducible rfl
                                      rotate_left
                                      · simp only [Act.put, List.setIfInBounds_toArray, List.set_cons_zero, List.set_cons_succ, i64_w, i32_w]
                                        rfl
                                      refine pure_ (i := 6) (N := some 66) (v := ?_) (a' := ?_) #[true, true, true, true, false, true, true, false, false, false, false] rfl rfl (any_of HT_.out (by kernel_rfl)) (fun _ _ _ h => h) (Or.inl ⟨by rfl, ?_⟩) ?_ ?_
                                      rotate_left
                                      · intro w'
                                        go_simp
                                        with_reducible rfl
                                      rotate_left
                                      · simp only [Act.put, List.setIfInBounds_toArray, List.set_cons_zero, List.set_cons_succ, i64_w, i32_w]
                                        rfl
                                      refine pure_ (i := 7) (N := some 67) (v := ?_) (a' := ?_) #[true, true, true, true, false, true, true, true, false, false, false] rfl rfl (any_of HT_.out (by kernel_rfl)) (fun _ _ _ h => h) (Or.inl ⟨by rfl, ?_⟩) ?_ ?_
                                      rotate_left
                                      · intro w'
                                        go_simp
                                        with_reducible rfl
                                      rotate_left
                                      · simp only [Act.put, List.setIfInBounds_toArray, List.set_cons_zero, List.set_cons_succ, i64_w, i32_w]
                                        rfl
                                      refine take_ (i := 4) (N := some 64) (v := ?_) (a' := ?_) #[true, true, true, true, true, true, true, true, false, false, false] rfl rfl (take_ofW HT_.out HW_.out (by kernel_rfl)) (fun _ _ _ h => h) (Or.inl ⟨by rfl, ?_⟩) hHeld ?_ ?_
                                      rotate_left
                                      · intro w' s0
                                        go_simp
                                        with_reducible rfl
                                      rotate_left
                                      · simp only [Act.put, List.setIfInBounds_toArray, List.set_cons_zero, List.set_cons_succ, i64_w, i32_w]
                                        rfl
                                      refine pure_ (i := 8) (N := some 68) (v := ?_) (a' := ?_) #[true, true, true, true, true, true, true, true, true, false, false] rfl rfl (any_of HT_.out (by kernel_rfl)) (fun _ _ _ h => h) (Or.inl ⟨by rfl, ?_⟩) ?_ ?_
                                      rotate_left
                                      · intro w'
                                        go_simp
                                        with_reducible rfl
                                      rotate_left
                                      · simp only [Act.put, List.setIfInBounds_toArray, List.set_cons_zero, List.set_cons_succ, i64_w, i32_w]
                                        rfl
                                      refine pure_ (i := 9) (N := some 69) (v := ?_) (a' := ?_) #[true, true, true, true, true, true, true, true, true, true, false] rfl rfl (any_of HT_.out (by kernel_rfl)) (fun _ _ _ h => h) (Or.inl ⟨by rfl, ?_⟩) ?_ ?_
                                      rotate_left
                                      · intro w'
                                        go_simp
                                        with_reducible rfl
                                      rotate_left
                                      · simp only [Act.put, List.setIfInBounds_toArray, List.set_cons_zero, List.set_cons_succ, i64_w, i32_w]
                                        rfl
                                      refine last_ (i := 10) (N := none) #[true, true, true, true, true, true, true, true, true, true, true] rfl rfl (one_of HT_.out (by kernel_rfl)) (by decide) (fun K hK => ?_)
                                      refine skip_ (w1 := ?_) (by rfl) rfl ?_ ?_
                                      rotate_left
                                      · go_simp
                                        rfl
                                      refine hK.out _ _ ?_
                                      clear hK K
                                      refine done_ (done_of HT_.out (by kernel_rfl)) ?_
                                      try go_wp2
                                      (try simp only [← hl9_3])
                                      go_roundg k3
                                      case measure => have := HJ4.out; have := HJ23.out; have := HK3.out; omega
                                      case rel => exact ⟨(y161), (true), (wrap64 (x42_3 + 1)), (by first | rfl | (simp; done) | (simp [*]; done)), (by first | rfl | (simp; done) | (simp [*]; done)), H', ⟨by have := HJ4.out; have := HJ23.out; have := HK3.out; omega⟩, ⟨by (try simp only [hl9_3]); (with_reducible repeat (first | apply Kd.R_alloc | apply Kd.R_drewN | apply Kd.R_drew)); exact HQ47.out⟩, ⟨by repeat (first | (with_reducible first | exact HB.out | apply below_alloc | apply pw_below_drewN | apply below_drew1 | refine below_set ?_ GB45.out) | exact HB.out)⟩⟩
                                    · rw [if_neg c43] at H
                                      exact absurd H (by simp)
                                  · rw [if_neg c41] at H
                                    exact absurd H (by simp)
                                · rw [if_neg c40] at H
                                  exact absurd H (by simp)
                              · rw [if_neg c38] at H
                                have c38b0 : decide ((wrap64 (fi + x42_3)) < (wrap64 (8 * (x9_3.length : Int)))) = false := decide_eq_false c38
                                clear c38
                                have H' := Aside0.mk H
                                clear H
                                go_wp2
                                (try simp only [← hl9_3])
                                go_roundg k3
                                case measure => have := HJ4.out; have := HJ23.out; have := HK3.out; omega
                                case rel => exact ⟨(x9_3), (x11_3), (wrap64 (x42_3 + 1)), (by first | rfl | (simp; done) | (simp [*]; done)), (by first | rfl | (simp; done) | (simp [*]; done)), H', ⟨by have := HJ4.out; have := HJ23.out; have := HK3.out; omega⟩, ⟨by (try simp only [hl9_3]); (with_reducible repeat (first | apply Kd.R_alloc | apply Kd.R_drewN | apply Kd.R_drew)); exact HO_9.out⟩, ⟨by repeat (first | (with_reducible first | exact HB.out | apply below_alloc | apply pw_below_drewN | apply below_drew1) | exact HB.out)⟩⟩
                            · rw [if_neg c37] at H
                              have c37b0 : ((Go.bits .and .u32 (ji36) 1) == 1) = false := beq_eq_false_iff_ne.mpr c37
                              have c37b1 : ((Go.bits .and .u32 (ji36) 1) != 1) = true := bne_iff_ne.mpr c37
                              have H' := Aside0.mk H
                              clear H
                              go_wp2
                              (try simp only [← hl9_3])
                              go_roundg k3
                              case measure => have := HJ4.out; have := HJ23.out; have := HK3.out; omega
                              case rel => exact ⟨(x9_3), (x11_3), (wrap64 (x42_3 + 1)), (by first | rfl | (simp; done) | (simp [*]; done)), (by first | rfl | (simp; done) | (simp [*]; done)), H', ⟨by have := HJ4.out; have := HJ23.out; have := HK3.out; omega⟩, ⟨by (try simp only [hl9_3]); (with_reducible repeat (first | apply Kd.R_alloc | apply Kd.R_drewN | apply Kd.R_drew)); exact HO_9.out⟩, ⟨by repeat (first | (with_reducible first | exact HB.out | apply below_alloc | apply pw_below_drewN | apply below_drew1) | exact HB.out)⟩⟩
                          · rw [if_neg c35] at H
                            exact absurd H (by simp)
                        · rw [if_neg c34] at H
                          have c34b0 : decide (x42_3 < 32) = false := decide_eq_false c34
                          clear c34
                          replace H := Option.bind_eq_some_iff.mp H
                          obtain ⟨t162, A480, H⟩ := H
                          replace H : (some (t162 != x11_3)) = some r := H
                          have A48 := Aside0.mk A480
                          clear A480
                          obtain rfl := Option.some.inj H
                          go_wp2_with (first | ((with_reducible refine gate_callee (f := 42) rfl ?_); refine goesL_ (some 73) rfl rfl Tryd.func42 (by kernel_rfl) rfl #[.bool a1, .slice Ao31 x9_3.length co31] rfl (by (try simp only [List.map_toArray, List.map_cons, List.map_nil]); first | done | rfl | (simp only [List.length_drop, List.length_take]; rfl)) ?_; (with_reducible refine (fcs_Good.calls a1 _ _ x9_3 t162 _ ?side1 ?side2 ?side3 A48.out).mono ?_); (case side1 => repeat (first | exact (Kd.R_reads' HO_9.out).2.2 | (with_reducible refine Kd.C_alloc ?_ _) | (with_reducible refine Kd.C_drewN ?_ _) | (with_reducible refine Kd.C_drew ?_))); (case side2 => exact (Kd.R_reads' HO_9.out).2.1); (case side3 => repeat (first | exact (GF_below HGF.out HB.out) | (with_reducible refine GF_alloc ?_ _) | (with_reducible refine GF_drewN ?_ _) | (with_reducible refine GF_drew ?_))); rintro e w49 ⟨rfl, hb⟩; refine ⟨_, rfl, ?_⟩; have n0_ := Aside0.mk (Kd.R_below (by (with_reducible repeat (first | apply Kd.R_alloc | apply Kd.R_drewN | apply Kd.R_drew)); exact HO_9.out) hb); have n1_ := Aside0.mk (below_step (by repeat (first | (with_reducible first | exact HB.out | apply below_alloc | apply pw_below_drewN | apply below_drew1) | exact HB.out)) hb); clear HO_9; clear HB; have HO_9 := n0_; have HB := n1_; clear n0_ n1_; (try clear hb); (try clear hb2); (try clear hk); (try clear hi)))
                          go_ret
                          exact ⟨by first | rfl | (simp [errW_none, errW_some] <;> rfl) | (simp [*, errW_none, errW_some] <;> rfl), by repeat (first | (with_reducible first | exact HB.out | apply below_alloc | apply pw_below_drewN | apply below_drew1) | exact HB.out)⟩
          · rw [if_neg c15] at H
            exact absurd H (by simp)
        · rw [if_neg c13] at H
          exact absurd H (by simp)

end Go.Proofs.YtggpejjfgphihaaDoor.D
