-- Printed by the session's own turn of the kit's print program (wip/pprint.py): not trusted, Lean checks it.
import Derived.Test.YtggpejjfgphihaaDoorHx0
import Derived.Test.YtggpejjfgphihaaDoorHx1
import Derived.Test.YtggpejjfgphihaaDoorHx2
namespace Go.Proofs.YtggpejjfgphihaaDoor.H
open Go.Proofs.YtggpejjfgphihaaDoor.Given Go.Proofs.YtggpejjfgphihaaDoor.D Go.RowKit Go.Proofs.YtggpejjfgphihaaDoorW.PrintWords Go.Proofs.YtggpejjfgphihaaDoorW.PrintLast Go.Proofs.YtggpejjfgphihaaDoorW.PrintMore
attribute [local go_sem] max2_int min2_int max_two min_two max_three min_three max_four min_four   -- for this text's walks alone
set_option linter.unusedVariables false
set_option linter.unusedSimpArgs false

/-! ### proto_Get: function 58 -/
def proto_Get.f (k : Nat) (l0 : List Int) (a1 : Bool) : Option (Int × Int × Int) := if (l0.length : Int) = 0 then (some (0, 0, 2)) else (if 0 < (l0.length : Int) then (if (Go.bits .and .u8 (rd l0 0) 1) = 0 then (if (l0.length : Int) = 1 then (some (0, 0, 2)) else ((wire_Get.f k l0 2).bind fun t125 => ((proto_Right.f (IntKind.u16.wrap (t125))).bind fun t126 => (if t126 = true then (if 2 = 1 then (if a1 = true then (some (IntKind.u16.wrap (t125), 2, 0)) else (some (0, 0, 7))) else (some (IntKind.u16.wrap (t125), 2, 0))) else (some (0, 0, 7)))))) else ((proto_Right.f (IntKind.u16.wrap (rd l0 0))).bind fun t127 => (if t127 = true then (if 1 = 1 then (if a1 = true then (some (IntKind.u16.wrap (rd l0 0), 1, 0)) else (some (0, 0, 7))) else (some (IntKind.u16.wrap (rd l0 0), 1, 0))) else (some (0, 0, 7))))) else (none))
theorem proto_Get.mono : ∀ a0 a1 k, LeO (proto_Get.f k a0 a1) (proto_Get.f (k + 1) a0 a1) := by
  intro a0 a1 k
  unfold proto_Get.f
  repeat' first
      | (with_reducible exact wire_Get.mono _ _ _)
      | (with_reducible exact LeO.refl _)
      | (with_reducible exact LeO.none _)
      | (with_reducible refine LeO.ite ?_ ?_)
      | (with_reducible refine LeO.bind ?_ (fun _ => ?_))
      | exact wire_Get.mono _ _ _
      | exact LeO.none _
      | refine LeO.ite ?_ ?_
      | refine LeO.bind ?_ (fun _ => ?_)
set_option maxHeartbeats 8000000 in
set_option maxRecDepth 100000 in
theorem proto_Get.calls (k : Nat) (A0 : Option Addr) (c0 : Nat) (l0 : List Int) (a1 : Bool) (r1 : Int) (r2 : Int) (r3 : Int) (w : World) (hr0 : Kd.C (Kd.int .u8) w A0 l0.length l0) (hc0 : l0.length ≤ c0) (h : proto_Get.f k l0 a1 = some (r1, r2, r3)) :
    Calls Tryd.prog 58 #[.slice A0 l0.length c0, .bool a1] w fun e w' => e = .returned (.tuple #[.int .u16 r1, .int .i64 r2, .int .i64 r3]) ∧ Drawn0 w w' := by
  have HR0 := Aside0.mk hr0
  have HC0 := Aside0.mk hc0
  clear hr0 hc0
  have H : (if (l0.length : Int) = 0 then (some (0, 0, 2)) else (if 0 < (l0.length : Int) then (if (Go.bits .and .u8 (rd l0 0) 1) = 0 then (if (l0.length : Int) = 1 then (some (0, 0, 2)) else ((wire_Get.f k l0 2).bind fun t125 => ((proto_Right.f (IntKind.u16.wrap (t125))).bind fun t126 => (if t126 = true then (if 2 = 1 then (if a1 = true then (some (IntKind.u16.wrap (t125), 2, 0)) else (some (0, 0, 7))) else (some (IntKind.u16.wrap (t125), 2, 0))) else (some (0, 0, 7)))))) else ((proto_Right.f (IntKind.u16.wrap (rd l0 0))).bind fun t127 => (if t127 = true then (if 1 = 1 then (if a1 = true then (some (IntKind.u16.wrap (rd l0 0), 1, 0)) else (some (0, 0, 7))) else (some (IntKind.u16.wrap (rd l0 0), 1, 0))) else (some (0, 0, 7))))) else (none))) = some (r1, r2, r3) := h
  clear h
  by_cases c3 : (l0.length : Int) = 0
  · rw [if_pos c3] at H
    have c3b0 : ((l0.length : Int) == 0) = true := beq_iff_eq.mpr c3
    have c3b1 : ((l0.length : Int) != 0) = false := bne_eq_false_iff_eq.mpr c3
    clear c3
    simp only [Option.some.injEq, Prod.mk.injEq] at H
    obtain ⟨rfl, rfl, rfl⟩ := H
    go_enter Tryd.func58, Tryd.ntmps58
    go_wp2
    go_ret3
    exact ⟨by first | rfl | (simp; done) | (simp [*]; done), by repeat (first | exact Drawn0.refl _ | apply Drawn0.step)⟩
  · rw [if_neg c3] at H
    have c3b0 : ((l0.length : Int) == 0) = false := beq_eq_false_iff_ne.mpr c3
    have c3b1 : ((l0.length : Int) != 0) = true := bne_iff_ne.mpr c3
    have c3b2 : ¬ (l0 = []) := fun h_ => c3 (by rw [h_]; rfl)
    by_cases c4 : 0 < (l0.length : Int)
    · rw [if_pos c4] at H
      have c4b0 : decide (0 < (l0.length : Int)) = true := decide_eq_true c4
      have c4b1 : decide (0 < l0.length) = true := decide_eq_true (by omega)
      clear c4
      by_cases c5 : (Go.bits .and .u8 (rd l0 0) 1) = 0
      · rw [if_pos c5] at H
        have c5b0 : ((Go.bits .and .u8 (rd l0 0) 1) == 0) = true := beq_iff_eq.mpr c5
        have c5b1 : ((Go.bits .and .u8 (rd l0 0) 1) != 0) = false := bne_eq_false_iff_eq.mpr c5
        clear c5
        by_cases c6 : (l0.length : Int) = 1
        · rw [if_pos c6] at H
          have c6b0 : ((l0.length : Int) == 1) = true := beq_iff_eq.mpr c6
          have c6b1 : ((l0.length : Int) != 1) = false := bne_eq_false_iff_eq.mpr c6
          clear c6
          simp only [Option.some.injEq, Prod.mk.injEq] at H
          obtain ⟨rfl, rfl, rfl⟩ := H
          have p123 : 0 ≤ (0 : Int) := (by omega)
          have q123 : 0 < (l0.length : Int) := of_decide_eq_true (by first | (with_reducible assumption) | assumption)
          obtain ⟨ad123, e123, hx123_0⟩ := Kd.at_int HR0.out 0 p123 q123
          cases e123
          have qi123 : (0 < l0.length) = True := eq_true (by omega)
          (try rw [show ((0 : Int)).toNat = 0 from rfl] at hx123_0)
          (try rw [Addr.add_zero'] at hx123_0)
          replace p123 := eq_true p123
          replace q123 := eq_true q123
          have p124 : 0 ≤ (0 : Int) := (by omega)
          have q124 : 0 < (l0.length : Int) := of_decide_eq_true (by first | (with_reducible assumption) | assumption)
          obtain ⟨ad124, e124, hx124_0⟩ := Kd.at_int HR0.out 0 p124 q124
          obtain rfl : ad123 = ad124 := (by injection e124)
          have qi124 : (0 < l0.length) = True := eq_true (by omega)
          (try rw [show ((0 : Int)).toNat = 0 from rfl] at hx124_0)
          (try rw [Addr.add_zero'] at hx124_0)
          replace p124 := eq_true p124
          replace q124 := eq_true q124
          go_enter Tryd.func58, Tryd.ntmps58
          go_wp2
          go_ret3
          exact ⟨by first | rfl | (simp; done) | (simp [*]; done), by repeat (first | exact Drawn0.refl _ | apply Drawn0.step)⟩
        · rw [if_neg c6] at H
          have c6b0 : ((l0.length : Int) == 1) = false := beq_eq_false_iff_ne.mpr c6
          have c6b1 : ((l0.length : Int) != 1) = true := bne_iff_ne.mpr c6
          replace H := Option.bind_eq_some_iff.mp H
          obtain ⟨t125, A70, H⟩ := H
          replace H : ((proto_Right.f (IntKind.u16.wrap (t125))).bind fun t126 => (if t126 = true then (if 2 = 1 then (if a1 = true then (some (IntKind.u16.wrap (t125), 2, 0)) else (some (0, 0, 7))) else (some (IntKind.u16.wrap (t125), 2, 0))) else (some (0, 0, 7)))) = some (r1, r2, r3) := H
          have A7 := Aside0.mk A70
          clear A70
          replace H := Option.bind_eq_some_iff.mp H
          obtain ⟨t126, A80, H⟩ := H
          replace H : (if t126 = true then (if 2 = 1 then (if a1 = true then (some (IntKind.u16.wrap (t125), 2, 0)) else (some (0, 0, 7))) else (some (IntKind.u16.wrap (t125), 2, 0))) else (some (0, 0, 7))) = some (r1, r2, r3) := H
          have A8 := Aside0.mk A80
          clear A80
          by_cases c9 : t126 = true
          · subst c9
            have H1 : (if 2 = 1 then (if a1 = true then (some (IntKind.u16.wrap (t125), 2, 0)) else (some (0, 0, 7))) else (some (IntKind.u16.wrap (t125), 2, 0))) = some (r1, r2, r3) := by rw [if_pos rfl] at H; exact H
            clear H
            have H := H1
            clear H1
            by_cases c10 : 2 = 1
            · exact absurd c10 (by decide)
            · rw [if_neg c10] at H
              have c10b0 : (2 == 1) = false := beq_eq_false_iff_ne.mpr c10
              have c10b1 : (2 != 1) = true := bne_iff_ne.mpr c10
              simp only [Option.some.injEq, Prod.mk.injEq] at H
              obtain ⟨rfl, rfl, rfl⟩ := H
              have p123 : 0 ≤ (0 : Int) := (by omega)
              have q123 : 0 < (l0.length : Int) := of_decide_eq_true (by first | (with_reducible assumption) | assumption)
              obtain ⟨ad123, e123, hx123_0⟩ := Kd.at_int HR0.out 0 p123 q123
              cases e123
              have qi123 : (0 < l0.length) = True := eq_true (by omega)
              (try rw [show ((0 : Int)).toNat = 0 from rfl] at hx123_0)
              (try rw [Addr.add_zero'] at hx123_0)
              replace p123 := eq_true p123
              replace q123 := eq_true q123
              have p124 : 0 ≤ (0 : Int) := (by omega)
              have q124 : 0 < (l0.length : Int) := of_decide_eq_true (by first | (with_reducible assumption) | assumption)
              obtain ⟨ad124, e124, hx124_0⟩ := Kd.at_int HR0.out 0 p124 q124
              obtain rfl : ad123 = ad124 := (by injection e124)
              have qi124 : (0 < l0.length) = True := eq_true (by omega)
              (try rw [show ((0 : Int)).toNat = 0 from rfl] at hx124_0)
              (try rw [Addr.add_zero'] at hx124_0)
              replace p124 := eq_true p124
              replace q124 := eq_true q124
              go_enter Tryd.func58, Tryd.ntmps58
              go_wp2_with (first | ((with_reducible refine gate_callee (f := 78) rfl ?_); refine goesL_ (some 25) rfl rfl Tryd.func78 (by kernel_rfl) rfl #[.slice (some ad123) l0.length c0, .int .i64 2] rfl (by (try simp only [List.map_toArray, List.map_cons, List.map_nil]); first | done | rfl | (simp only [List.length_drop, List.length_take]; rfl)) ?_; (with_reducible refine (wire_Get.calls k _ _ l0 2 t125 _ ?side1 ?side2 A7.out).mono ?_); (case side1 => repeat (first | exact HR0.out | (with_reducible refine Kd.C_alloc ?_ _) | (with_reducible refine Kd.C_drewN ?_ _) | (with_reducible refine Kd.C_drew ?_))); (case side2 => exact HC0.out); rintro e w' ⟨rfl, ⟨nd, rfl⟩⟩; refine ⟨_, rfl, ?_⟩) | ((with_reducible refine gate_callee (f := 69) rfl ?_); refine goesL_ (some 28) rfl rfl Tryd.func69 (by kernel_rfl) rfl #[.int .u16 (IntKind.u16.wrap (t125))] rfl (by (try simp only [List.map_toArray, List.map_cons, List.map_nil]); first | done | rfl | (simp only [List.length_drop, List.length_take]; rfl)) ?_; (with_reducible refine (proto_Right.calls (IntKind.u16.wrap (t125)) true _ A8.out).mono ?_); rintro e w' ⟨rfl, ⟨nd, rfl⟩⟩; refine ⟨_, rfl, ?_⟩))
              go_ret3
              exact ⟨by first | rfl | (simp; done) | (simp [*]; done), by repeat (first | exact Drawn0.refl _ | apply Drawn0.step)⟩
          · replace c9 := Bool.eq_false_iff.mpr c9
            subst c9
            have H1 : (some (0, 0, 7)) = some (r1, r2, r3) := by rw [if_neg (show ¬ (false = true) by decide)] at H; exact H
            clear H
            have H := H1
            clear H1
            simp only [Option.some.injEq, Prod.mk.injEq] at H
            obtain ⟨rfl, rfl, rfl⟩ := H
            have p123 : 0 ≤ (0 : Int) := (by omega)
            have q123 : 0 < (l0.length : Int) := of_decide_eq_true (by first | (with_reducible assumption) | assumption)
            obtain ⟨ad123, e123, hx123_0⟩ := Kd.at_int HR0.out 0 p123 q123
            cases e123
            have qi123 : (0 < l0.length) = True := eq_true (by omega)
            (try rw [show ((0 : Int)).toNat = 0 from rfl] at hx123_0)
            (try rw [Addr.add_zero'] at hx123_0)
            replace p123 := eq_true p123
            replace q123 := eq_true q123
            have p124 : 0 ≤ (0 : Int) := (by omega)
            have q124 : 0 < (l0.length : Int) := of_decide_eq_true (by first | (with_reducible assumption) | assumption)
            obtain ⟨ad124, e124, hx124_0⟩ := Kd.at_int HR0.out 0 p124 q124
            obtain rfl : ad123 = ad124 := (by injection e124)
            have qi124 : (0 < l0.length) = True := eq_true (by omega)
            (try rw [show ((0 : Int)).toNat = 0 from rfl] at hx124_0)
            (try rw [Addr.add_zero'] at hx124_0)
            replace p124 := eq_true p124
            replace q124 := eq_true q124
            go_enter Tryd.func58, Tryd.ntmps58
            go_wp2_with (first | ((with_reducible refine gate_callee (f := 78) rfl ?_); refine goesL_ (some 25) rfl rfl Tryd.func78 (by kernel_rfl) rfl #[.slice (some ad123) l0.length c0, .int .i64 2] rfl (by (try simp only [List.map_toArray, List.map_cons, List.map_nil]); first | done | rfl | (simp only [List.length_drop, List.length_take]; rfl)) ?_; (with_reducible refine (wire_Get.calls k _ _ l0 2 t125 _ ?side1 ?side2 A7.out).mono ?_); (case side1 => repeat (first | exact HR0.out | (with_reducible refine Kd.C_alloc ?_ _) | (with_reducible refine Kd.C_drewN ?_ _) | (with_reducible refine Kd.C_drew ?_))); (case side2 => exact HC0.out); rintro e w' ⟨rfl, ⟨nd, rfl⟩⟩; refine ⟨_, rfl, ?_⟩) | ((with_reducible refine gate_callee (f := 69) rfl ?_); refine goesL_ (some 28) rfl rfl Tryd.func69 (by kernel_rfl) rfl #[.int .u16 (IntKind.u16.wrap (t125))] rfl (by (try simp only [List.map_toArray, List.map_cons, List.map_nil]); first | done | rfl | (simp only [List.length_drop, List.length_take]; rfl)) ?_; (with_reducible refine (proto_Right.calls (IntKind.u16.wrap (t125)) false _ A8.out).mono ?_); rintro e w' ⟨rfl, ⟨nd, rfl⟩⟩; refine ⟨_, rfl, ?_⟩))
            go_ret3
            exact ⟨by first | rfl | (simp; done) | (simp [*]; done), by repeat (first | exact Drawn0.refl _ | apply Drawn0.step)⟩
      · rw [if_neg c5] at H
        have c5b0 : ((Go.bits .and .u8 (rd l0 0) 1) == 0) = false := beq_eq_false_iff_ne.mpr c5
        have c5b1 : ((Go.bits .and .u8 (rd l0 0) 1) != 0) = true := bne_iff_ne.mpr c5
        replace H := Option.bind_eq_some_iff.mp H
        obtain ⟨t127, A120, H⟩ := H
        replace H : (if t127 = true then (if 1 = 1 then (if a1 = true then (some (IntKind.u16.wrap (rd l0 0), 1, 0)) else (some (0, 0, 7))) else (some (IntKind.u16.wrap (rd l0 0), 1, 0))) else (some (0, 0, 7))) = some (r1, r2, r3) := H
        have A12 := Aside0.mk A120
        clear A120
        by_cases c13 : t127 = true
        · subst c13
          have H1 : (if 1 = 1 then (if a1 = true then (some (IntKind.u16.wrap (rd l0 0), 1, 0)) else (some (0, 0, 7))) else (some (IntKind.u16.wrap (rd l0 0), 1, 0))) = some (r1, r2, r3) := by rw [if_pos rfl] at H; exact H
          clear H
          have H := H1
          clear H1
          by_cases c14 : 1 = 1
          · rw [if_pos c14] at H
            have c14b0 : (1 == 1) = true := beq_iff_eq.mpr c14
            have c14b1 : (1 != 1) = false := bne_eq_false_iff_eq.mpr c14
            clear c14
            by_cases c15 : a1 = true
            · subst c15
              have H1 : (some (IntKind.u16.wrap (rd l0 0), 1, 0)) = some (r1, r2, r3) := by rw [if_pos rfl] at H; exact H
              clear H
              have H := H1
              clear H1
              simp only [Option.some.injEq, Prod.mk.injEq] at H
              obtain ⟨rfl, rfl, rfl⟩ := H
              have p123 : 0 ≤ (0 : Int) := (by omega)
              have q123 : 0 < (l0.length : Int) := of_decide_eq_true (by first | (with_reducible assumption) | assumption)
              obtain ⟨ad123, e123, hx123_0⟩ := Kd.at_int HR0.out 0 p123 q123
              cases e123
              have qi123 : (0 < l0.length) = True := eq_true (by omega)
              (try rw [show ((0 : Int)).toNat = 0 from rfl] at hx123_0)
              (try rw [Addr.add_zero'] at hx123_0)
              replace p123 := eq_true p123
              replace q123 := eq_true q123
              have p124 : 0 ≤ (0 : Int) := (by omega)
              have q124 : 0 < (l0.length : Int) := of_decide_eq_true (by first | (with_reducible assumption) | assumption)
              obtain ⟨ad124, e124, hx124_0⟩ := Kd.at_int HR0.out 0 p124 q124
              obtain rfl : ad123 = ad124 := (by injection e124)
              have qi124 : (0 < l0.length) = True := eq_true (by omega)
              (try rw [show ((0 : Int)).toNat = 0 from rfl] at hx124_0)
              (try rw [Addr.add_zero'] at hx124_0)
              replace p124 := eq_true p124
              replace q124 := eq_true q124
              go_enter Tryd.func58, Tryd.ntmps58
              go_wp2_with (first | ((with_reducible refine gate_callee (f := 69) rfl ?_); refine goesL_ (some 28) rfl rfl Tryd.func69 (by kernel_rfl) rfl #[.int .u16 (IntKind.u16.wrap (rd l0 0))] rfl (by (try simp only [List.map_toArray, List.map_cons, List.map_nil]); first | done | rfl | (simp only [List.length_drop, List.length_take]; rfl)) ?_; (with_reducible refine (proto_Right.calls (IntKind.u16.wrap (rd l0 0)) true _ A12.out).mono ?_); rintro e w' ⟨rfl, ⟨nd, rfl⟩⟩; refine ⟨_, rfl, ?_⟩))
              go_ret3
              exact ⟨by first | rfl | (simp; done) | (simp [*]; done), by repeat (first | exact Drawn0.refl _ | apply Drawn0.step)⟩
            · replace c15 := Bool.eq_false_iff.mpr c15
              subst c15
              have H1 : (some (0, 0, 7)) = some (r1, r2, r3) := by rw [if_neg (show ¬ (false = true) by decide)] at H; exact H
              clear H
              have H := H1
              clear H1
              simp only [Option.some.injEq, Prod.mk.injEq] at H
              obtain ⟨rfl, rfl, rfl⟩ := H
              have p123 : 0 ≤ (0 : Int) := (by omega)
              have q123 : 0 < (l0.length : Int) := of_decide_eq_true (by first | (with_reducible assumption) | assumption)
              obtain ⟨ad123, e123, hx123_0⟩ := Kd.at_int HR0.out 0 p123 q123
              cases e123
              have qi123 : (0 < l0.length) = True := eq_true (by omega)
              (try rw [show ((0 : Int)).toNat = 0 from rfl] at hx123_0)
              (try rw [Addr.add_zero'] at hx123_0)
              replace p123 := eq_true p123
              replace q123 := eq_true q123
              have p124 : 0 ≤ (0 : Int) := (by omega)
              have q124 : 0 < (l0.length : Int) := of_decide_eq_true (by first | (with_reducible assumption) | assumption)
              obtain ⟨ad124, e124, hx124_0⟩ := Kd.at_int HR0.out 0 p124 q124
              obtain rfl : ad123 = ad124 := (by injection e124)
              have qi124 : (0 < l0.length) = True := eq_true (by omega)
              (try rw [show ((0 : Int)).toNat = 0 from rfl] at hx124_0)
              (try rw [Addr.add_zero'] at hx124_0)
              replace p124 := eq_true p124
              replace q124 := eq_true q124
              go_enter Tryd.func58, Tryd.ntmps58
              go_wp2_with (first | ((with_reducible refine gate_callee (f := 69) rfl ?_); refine goesL_ (some 28) rfl rfl Tryd.func69 (by kernel_rfl) rfl #[.int .u16 (IntKind.u16.wrap (rd l0 0))] rfl (by (try simp only [List.map_toArray, List.map_cons, List.map_nil]); first | done | rfl | (simp only [List.length_drop, List.length_take]; rfl)) ?_; (with_reducible refine (proto_Right.calls (IntKind.u16.wrap (rd l0 0)) true _ A12.out).mono ?_); rintro e w' ⟨rfl, ⟨nd, rfl⟩⟩; refine ⟨_, rfl, ?_⟩))
              go_ret3
              exact ⟨by first | rfl | (simp; done) | (simp [*]; done), by repeat (first | exact Drawn0.refl _ | apply Drawn0.step)⟩
          · exact absurd rfl c14
        · replace c13 := Bool.eq_false_iff.mpr c13
          subst c13
          have H1 : (some (0, 0, 7)) = some (r1, r2, r3) := by rw [if_neg (show ¬ (false = true) by decide)] at H; exact H
          clear H
          have H := H1
          clear H1
          simp only [Option.some.injEq, Prod.mk.injEq] at H
          obtain ⟨rfl, rfl, rfl⟩ := H
          have p123 : 0 ≤ (0 : Int) := (by omega)
          have q123 : 0 < (l0.length : Int) := of_decide_eq_true (by first | (with_reducible assumption) | assumption)
          obtain ⟨ad123, e123, hx123_0⟩ := Kd.at_int HR0.out 0 p123 q123
          cases e123
          have qi123 : (0 < l0.length) = True := eq_true (by omega)
          (try rw [show ((0 : Int)).toNat = 0 from rfl] at hx123_0)
          (try rw [Addr.add_zero'] at hx123_0)
          replace p123 := eq_true p123
          replace q123 := eq_true q123
          have p124 : 0 ≤ (0 : Int) := (by omega)
          have q124 : 0 < (l0.length : Int) := of_decide_eq_true (by first | (with_reducible assumption) | assumption)
          obtain ⟨ad124, e124, hx124_0⟩ := Kd.at_int HR0.out 0 p124 q124
          obtain rfl : ad123 = ad124 := (by injection e124)
          have qi124 : (0 < l0.length) = True := eq_true (by omega)
          (try rw [show ((0 : Int)).toNat = 0 from rfl] at hx124_0)
          (try rw [Addr.add_zero'] at hx124_0)
          replace p124 := eq_true p124
          replace q124 := eq_true q124
          go_enter Tryd.func58, Tryd.ntmps58
          go_wp2_with (first | ((with_reducible refine gate_callee (f := 69) rfl ?_); refine goesL_ (some 28) rfl rfl Tryd.func69 (by kernel_rfl) rfl #[.int .u16 (IntKind.u16.wrap (rd l0 0))] rfl (by (try simp only [List.map_toArray, List.map_cons, List.map_nil]); first | done | rfl | (simp only [List.length_drop, List.length_take]; rfl)) ?_; (with_reducible refine (proto_Right.calls (IntKind.u16.wrap (rd l0 0)) false _ A12.out).mono ?_); rintro e w' ⟨rfl, ⟨nd, rfl⟩⟩; refine ⟨_, rfl, ?_⟩))
          go_ret3
          exact ⟨by first | rfl | (simp; done) | (simp [*]; done), by repeat (first | exact Drawn0.refl _ | apply Drawn0.step)⟩
    · rw [if_neg c4] at H
      exact absurd H (by simp)

-- NOT PRINTED: function 29 (head_Get)

end Go.Proofs.YtggpejjfgphihaaDoor.H
