-- Printed by the session's own turn of the kit's print program (wip/pprint.py): not trusted, Lean checks it.
import Derived.Test.YtggpejjfgphihaaDoorHx0
namespace Go.Proofs.YtggpejjfgphihaaDoor.H
open Go.Proofs.YtggpejjfgphihaaDoor.Given Go.Proofs.YtggpejjfgphihaaDoor.D Go.RowKit Go.Proofs.YtggpejjfgphihaaDoorW.PrintWords Go.Proofs.YtggpejjfgphihaaDoorW.PrintLast Go.Proofs.YtggpejjfgphihaaDoorW.PrintMore
attribute [local go_sem] max2_int min2_int max_two min_two max_three min_three max_four min_four   -- for this text's walks alone
set_option linter.unusedVariables false
set_option linter.unusedSimpArgs false

/-! ### marlineref09_Get: function 59 -/
def marlineref09_Get.f (l0 : List Int) (a1 : Bool) : Option (Int × Int × Int) := if (l0.length : Int) = 0 then (some (0, 0, 2)) else (if 0 < (l0.length : Int) then (if (Int.tmod (rd l0 0) 2) = 1 then (if a1 = true then (if (rd l0 0) = 255 then (some (0, 0, 7)) else (some (wrap64 (rd l0 0), 1, 0))) else (some (0, 0, 7))) else (if (l0.length : Int) < 2 then (some (0, 0, 2)) else (if 1 < (l0.length : Int) then (if (Int.tmod (rd l0 1) 2) = 0 then (some (0, 0, 7)) else (if (rd l0 0) = 0 then (if (rd l0 1) = 255 then (some (0, 0, 7)) else (some (wrap64 ((wrap64 (256 * (wrap64 (rd l0 0)))) + (wrap64 (rd l0 1))), 2, 0))) else (some (wrap64 ((wrap64 (256 * (wrap64 (rd l0 0)))) + (wrap64 (rd l0 1))), 2, 0)))) else (none)))) else (none))
set_option maxHeartbeats 8000000 in
set_option maxRecDepth 100000 in
theorem marlineref09_Get.calls (A0 : Option Addr) (c0 : Nat) (l0 : List Int) (a1 : Bool) (r1 : Int) (r2 : Int) (r3 : Int) (w : World) (hr0 : Kd.C (Kd.int .u8) w A0 l0.length l0) (hc0 : l0.length ≤ c0) (h : marlineref09_Get.f l0 a1 = some (r1, r2, r3)) :
    Calls Tryd.prog 59 #[.slice A0 l0.length c0, .bool a1] w fun e w' => e = .returned (.tuple #[.int .i64 r1, .int .i64 r2, .int .i64 r3]) ∧ Drawn0 w w' := by
  have HR0 := Aside0.mk hr0
  have HC0 := Aside0.mk hc0
  clear hr0 hc0
  have H : (if (l0.length : Int) = 0 then (some (0, 0, 2)) else (if 0 < (l0.length : Int) then (if (Int.tmod (rd l0 0) 2) = 1 then (if a1 = true then (if (rd l0 0) = 255 then (some (0, 0, 7)) else (some (wrap64 (rd l0 0), 1, 0))) else (some (0, 0, 7))) else (if (l0.length : Int) < 2 then (some (0, 0, 2)) else (if 1 < (l0.length : Int) then (if (Int.tmod (rd l0 1) 2) = 0 then (some (0, 0, 7)) else (if (rd l0 0) = 0 then (if (rd l0 1) = 255 then (some (0, 0, 7)) else (some (wrap64 ((wrap64 (256 * (wrap64 (rd l0 0)))) + (wrap64 (rd l0 1))), 2, 0))) else (some (wrap64 ((wrap64 (256 * (wrap64 (rd l0 0)))) + (wrap64 (rd l0 1))), 2, 0)))) else (none)))) else (none))) = some (r1, r2, r3) := h
  clear h
  by_cases c3 : (l0.length : Int) = 0
  · rw [if_pos c3] at H
    have c3b0 : ((l0.length : Int) == 0) = true := beq_iff_eq.mpr c3
    have c3b1 : ((l0.length : Int) != 0) = false := bne_eq_false_iff_eq.mpr c3
    clear c3
    simp only [Option.some.injEq, Prod.mk.injEq] at H
    obtain ⟨rfl, rfl, rfl⟩ := H
    go_enter Tryd.func59, Tryd.ntmps59
    go_wp2
    repeat (go_quiet (fail); try go_wp2)
    go_ret3
    exact ⟨by first | rfl | (simp; done) | (simp [*]; done), by repeat (first | exact Drawn0.refl _ | apply Drawn0.step)⟩
  · rw [if_neg c3] at H
    have c3b0 : ((l0.length : Int) == 0) = false := beq_eq_false_iff_ne.mpr c3
    have c3b1 : ((l0.length : Int) != 0) = true := bne_iff_ne.mpr c3
    have c3b2 : ¬ (l0 = []) := fun h_ => c3 (by rw [h_]; rfl)
    by_cases c4 : 0 < (l0.length : Int)
    · rw [if_pos c4] at H
      have c4b0 : decide (0 < (l0.length : Int)) = true := decide_eq_true c4
      have c4b1 : decide (0 < l0.length) = true := decide_eq_true (by omega)
      clear c4
      by_cases c5 : (Int.tmod (rd l0 0) 2) = 1
      · rw [if_pos c5] at H
        have c5b0 : ((Int.tmod (rd l0 0) 2) == 1) = true := beq_iff_eq.mpr c5
        have c5b1 : ((Int.tmod (rd l0 0) 2) != 1) = false := bne_eq_false_iff_eq.mpr c5
        clear c5
        by_cases c6 : a1 = true
        · subst c6
          have H1 : (if (rd l0 0) = 255 then (some (0, 0, 7)) else (some (wrap64 (rd l0 0), 1, 0))) = some (r1, r2, r3) := by rw [if_pos rfl] at H; exact H
          clear H
          have H := H1
          clear H1
          by_cases c7 : (rd l0 0) = 255
          · rw [if_pos c7] at H
            have c7b0 : ((rd l0 0) == 255) = true := beq_iff_eq.mpr c7
            have c7b1 : ((rd l0 0) != 255) = false := bne_eq_false_iff_eq.mpr c7
            clear c7
            simp only [Option.some.injEq, Prod.mk.injEq] at H
            obtain ⟨rfl, rfl, rfl⟩ := H
            have p129 : 0 ≤ (0 : Int) := (by omega)
            have q129 : 0 < (l0.length : Int) := of_decide_eq_true (by first | (with_reducible assumption) | assumption)
            obtain ⟨ad129, e129, hx129_0⟩ := Kd.at_int HR0.out 0 p129 q129
            cases e129
            have qi129 : (0 < l0.length) = True := eq_true (by omega)
            (try rw [show ((0 : Int)).toNat = 0 from rfl] at hx129_0)
            (try rw [Addr.add_zero'] at hx129_0)
            replace p129 := eq_true p129
            replace q129 := eq_true q129
            have p130 : 0 ≤ (0 : Int) := (by omega)
            have q130 : 0 < (l0.length : Int) := of_decide_eq_true (by first | (with_reducible assumption) | assumption)
            obtain ⟨ad130, e130, hx130_0⟩ := Kd.at_int HR0.out 0 p130 q130
            obtain rfl : ad129 = ad130 := (by injection e130)
            have qi130 : (0 < l0.length) = True := eq_true (by omega)
            (try rw [show ((0 : Int)).toNat = 0 from rfl] at hx130_0)
            (try rw [Addr.add_zero'] at hx130_0)
            replace p130 := eq_true p130
            replace q130 := eq_true q130
            go_enter Tryd.func59, Tryd.ntmps59
            go_wp2
            repeat (go_quiet (fail); try go_wp2)
            go_ret3
            exact ⟨by first | rfl | (simp; done) | (simp [*]; done), by repeat (first | exact Drawn0.refl _ | apply Drawn0.step)⟩
          · rw [if_neg c7] at H
            have c7b0 : ((rd l0 0) == 255) = false := beq_eq_false_iff_ne.mpr c7
            have c7b1 : ((rd l0 0) != 255) = true := bne_iff_ne.mpr c7
            simp only [Option.some.injEq, Prod.mk.injEq] at H
            obtain ⟨rfl, rfl, rfl⟩ := H
            have p129 : 0 ≤ (0 : Int) := (by omega)
            have q129 : 0 < (l0.length : Int) := of_decide_eq_true (by first | (with_reducible assumption) | assumption)
            obtain ⟨ad129, e129, hx129_0⟩ := Kd.at_int HR0.out 0 p129 q129
            cases e129
            have qi129 : (0 < l0.length) = True := eq_true (by omega)
            (try rw [show ((0 : Int)).toNat = 0 from rfl] at hx129_0)
            (try rw [Addr.add_zero'] at hx129_0)
            replace p129 := eq_true p129
            replace q129 := eq_true q129
            have p130 : 0 ≤ (0 : Int) := (by omega)
            have q130 : 0 < (l0.length : Int) := of_decide_eq_true (by first | (with_reducible assumption) | assumption)
            obtain ⟨ad130, e130, hx130_0⟩ := Kd.at_int HR0.out 0 p130 q130
            obtain rfl : ad129 = ad130 := (by injection e130)
            have qi130 : (0 < l0.length) = True := eq_true (by omega)
            (try rw [show ((0 : Int)).toNat = 0 from rfl] at hx130_0)
            (try rw [Addr.add_zero'] at hx130_0)
            replace p130 := eq_true p130
            replace q130 := eq_true q130
            have p131 : 0 ≤ (0 : Int) := (by omega)
            have q131 : 0 < (l0.length : Int) := of_decide_eq_true (by first | (with_reducible assumption) | assumption)
            obtain ⟨ad131, e131, hx131_0⟩ := Kd.at_int HR0.out 0 p131 q131
            obtain rfl : ad129 = ad131 := (by injection e131)
            have qi131 : (0 < l0.length) = True := eq_true (by omega)
            (try rw [show ((0 : Int)).toNat = 0 from rfl] at hx131_0)
            (try rw [Addr.add_zero'] at hx131_0)
            replace p131 := eq_true p131
            replace q131 := eq_true q131
            go_enter Tryd.func59, Tryd.ntmps59
            go_wp2
            repeat (go_quiet (fail); try go_wp2)
            go_ret3
            exact ⟨by first | rfl | (simp; done) | (simp [*]; done), by repeat (first | exact Drawn0.refl _ | apply Drawn0.step)⟩
        · replace c6 := Bool.eq_false_iff.mpr c6
          subst c6
          have H1 : (some (0, 0, 7)) = some (r1, r2, r3) := by rw [if_neg (show ¬ (false = true) by decide)] at H; exact H
          clear H
          have H := H1
          clear H1
          simp only [Option.some.injEq, Prod.mk.injEq] at H
          obtain ⟨rfl, rfl, rfl⟩ := H
          have p129 : 0 ≤ (0 : Int) := (by omega)
          have q129 : 0 < (l0.length : Int) := of_decide_eq_true (by first | (with_reducible assumption) | assumption)
          obtain ⟨ad129, e129, hx129_0⟩ := Kd.at_int HR0.out 0 p129 q129
          cases e129
          have qi129 : (0 < l0.length) = True := eq_true (by omega)
          (try rw [show ((0 : Int)).toNat = 0 from rfl] at hx129_0)
          (try rw [Addr.add_zero'] at hx129_0)
          replace p129 := eq_true p129
          replace q129 := eq_true q129
          go_enter Tryd.func59, Tryd.ntmps59
          go_wp2
          repeat (go_quiet (fail); try go_wp2)
          go_ret3
          exact ⟨by first | rfl | (simp; done) | (simp [*]; done), by repeat (first | exact Drawn0.refl _ | apply Drawn0.step)⟩
      · rw [if_neg c5] at H
        have c5b0 : ((Int.tmod (rd l0 0) 2) == 1) = false := beq_eq_false_iff_ne.mpr c5
        have c5b1 : ((Int.tmod (rd l0 0) 2) != 1) = true := bne_iff_ne.mpr c5
        by_cases c8 : (l0.length : Int) < 2
        · rw [if_pos c8] at H
          have c8b0 : decide ((l0.length : Int) < 2) = true := decide_eq_true c8
          have c8b1 : decide (l0.length < 2) = true := decide_eq_true (by omega)
          clear c8
          simp only [Option.some.injEq, Prod.mk.injEq] at H
          obtain ⟨rfl, rfl, rfl⟩ := H
          have p129 : 0 ≤ (0 : Int) := (by omega)
          have q129 : 0 < (l0.length : Int) := of_decide_eq_true (by first | (with_reducible assumption) | assumption)
          obtain ⟨ad129, e129, hx129_0⟩ := Kd.at_int HR0.out 0 p129 q129
          cases e129
          have qi129 : (0 < l0.length) = True := eq_true (by omega)
          (try rw [show ((0 : Int)).toNat = 0 from rfl] at hx129_0)
          (try rw [Addr.add_zero'] at hx129_0)
          replace p129 := eq_true p129
          replace q129 := eq_true q129
          go_enter Tryd.func59, Tryd.ntmps59
          go_wp2
          repeat (go_quiet (fail); try go_wp2)
          go_ret3
          exact ⟨by first | rfl | (simp; done) | (simp [*]; done), by repeat (first | exact Drawn0.refl _ | apply Drawn0.step)⟩
        · rw [if_neg c8] at H
          have c8b0 : decide ((l0.length : Int) < 2) = false := decide_eq_false c8
          have c8b1 : decide (l0.length < 2) = false := decide_eq_false (by omega)
          clear c8
          by_cases c9 : 1 < (l0.length : Int)
          · rw [if_pos c9] at H
            have c9b0 : decide (1 < (l0.length : Int)) = true := decide_eq_true c9
            have c9b1 : decide (1 < l0.length) = true := decide_eq_true (by omega)
            clear c9
            by_cases c10 : (Int.tmod (rd l0 1) 2) = 0
            · rw [if_pos c10] at H
              have c10b0 : ((Int.tmod (rd l0 1) 2) == 0) = true := beq_iff_eq.mpr c10
              have c10b1 : ((Int.tmod (rd l0 1) 2) != 0) = false := bne_eq_false_iff_eq.mpr c10
              clear c10
              simp only [Option.some.injEq, Prod.mk.injEq] at H
              obtain ⟨rfl, rfl, rfl⟩ := H
              have p129 : 0 ≤ (0 : Int) := (by omega)
              have q129 : 0 < (l0.length : Int) := of_decide_eq_true (by first | (with_reducible assumption) | assumption)
              obtain ⟨ad129, e129, hx129_0⟩ := Kd.at_int HR0.out 0 p129 q129
              cases e129
              have qi129 : (0 < l0.length) = True := eq_true (by omega)
              (try rw [show ((0 : Int)).toNat = 0 from rfl] at hx129_0)
              (try rw [Addr.add_zero'] at hx129_0)
              replace p129 := eq_true p129
              replace q129 := eq_true q129
              have p132 : 0 ≤ (1 : Int) := (by omega)
              have q132 : 1 < (l0.length : Int) := of_decide_eq_true (by first | (with_reducible assumption) | assumption)
              obtain ⟨ad132, e132, hx132_0⟩ := Kd.at_int HR0.out 1 p132 q132
              obtain rfl : ad129 = ad132 := (by injection e132)
              (try simp only [show (1 : Int).toNat = 1 from rfl, Nat.reduceMul, Nat.reduceEqDiff, Go.Addr.add, ↓reduceIte] at hx132_0)
              have qi132 : (1 < l0.length) = True := eq_true (by omega)
              (try rw [show ((1 : Int)).toNat = 1 from rfl] at hx132_0)
              replace p132 := eq_true p132
              replace q132 := eq_true q132
              go_enter Tryd.func59, Tryd.ntmps59
              go_wp2
              repeat (go_quiet (fail); try go_wp2)
              go_ret3
              exact ⟨by first | rfl | (simp; done) | (simp [*]; done), by repeat (first | exact Drawn0.refl _ | apply Drawn0.step)⟩
            · rw [if_neg c10] at H
              have c10b0 : ((Int.tmod (rd l0 1) 2) == 0) = false := beq_eq_false_iff_ne.mpr c10
              have c10b1 : ((Int.tmod (rd l0 1) 2) != 0) = true := bne_iff_ne.mpr c10
              by_cases c11 : (rd l0 0) = 0
              · rw [if_pos c11] at H
                have c11b0 : ((rd l0 0) == 0) = true := beq_iff_eq.mpr c11
                have c11b1 : ((rd l0 0) != 0) = false := bne_eq_false_iff_eq.mpr c11
                clear c11
                by_cases c12 : (rd l0 1) = 255
                · rw [if_pos c12] at H
                  have c12b0 : ((rd l0 1) == 255) = true := beq_iff_eq.mpr c12
                  have c12b1 : ((rd l0 1) != 255) = false := bne_eq_false_iff_eq.mpr c12
                  clear c12
                  simp only [Option.some.injEq, Prod.mk.injEq] at H
                  obtain ⟨rfl, rfl, rfl⟩ := H
                  have p129 : 0 ≤ (0 : Int) := (by omega)
                  have q129 : 0 < (l0.length : Int) := of_decide_eq_true (by first | (with_reducible assumption) | assumption)
                  obtain ⟨ad129, e129, hx129_0⟩ := Kd.at_int HR0.out 0 p129 q129
                  cases e129
                  have qi129 : (0 < l0.length) = True := eq_true (by omega)
                  (try rw [show ((0 : Int)).toNat = 0 from rfl] at hx129_0)
                  (try rw [Addr.add_zero'] at hx129_0)
                  replace p129 := eq_true p129
                  replace q129 := eq_true q129
                  have p132 : 0 ≤ (1 : Int) := (by omega)
                  have q132 : 1 < (l0.length : Int) := of_decide_eq_true (by first | (with_reducible assumption) | assumption)
                  obtain ⟨ad132, e132, hx132_0⟩ := Kd.at_int HR0.out 1 p132 q132
                  obtain rfl : ad129 = ad132 := (by injection e132)
                  (try simp only [show (1 : Int).toNat = 1 from rfl, Nat.reduceMul, Nat.reduceEqDiff, Go.Addr.add, ↓reduceIte] at hx132_0)
                  have qi132 : (1 < l0.length) = True := eq_true (by omega)
                  (try rw [show ((1 : Int)).toNat = 1 from rfl] at hx132_0)
                  replace p132 := eq_true p132
                  replace q132 := eq_true q132
                  have p133 : 0 ≤ (0 : Int) := (by omega)
                  have q133 : 0 < (l0.length : Int) := of_decide_eq_true (by first | (with_reducible assumption) | assumption)
                  obtain ⟨ad133, e133, hx133_0⟩ := Kd.at_int HR0.out 0 p133 q133
                  obtain rfl : ad129 = ad133 := (by injection e133)
                  have qi133 : (0 < l0.length) = True := eq_true (by omega)
                  (try rw [show ((0 : Int)).toNat = 0 from rfl] at hx133_0)
                  (try rw [Addr.add_zero'] at hx133_0)
                  replace p133 := eq_true p133
                  replace q133 := eq_true q133
                  have p134 : 0 ≤ (1 : Int) := (by omega)
                  have q134 : 1 < (l0.length : Int) := of_decide_eq_true (by first | (with_reducible assumption) | assumption)
                  obtain ⟨ad134, e134, hx134_0⟩ := Kd.at_int HR0.out 1 p134 q134
                  obtain rfl : ad129 = ad134 := (by injection e134)
                  (try simp only [show (1 : Int).toNat = 1 from rfl, Nat.reduceMul, Nat.reduceEqDiff, Go.Addr.add, ↓reduceIte] at hx134_0)
                  have qi134 : (1 < l0.length) = True := eq_true (by omega)
                  (try rw [show ((1 : Int)).toNat = 1 from rfl] at hx134_0)
                  replace p134 := eq_true p134
                  replace q134 := eq_true q134
                  go_enter Tryd.func59, Tryd.ntmps59
                  go_wp2
                  repeat (go_quiet (fail); try go_wp2)
                  go_ret3
                  exact ⟨by first | rfl | (simp; done) | (simp [*]; done), by repeat (first | exact Drawn0.refl _ | apply Drawn0.step)⟩
                · rw [if_neg c12] at H
                  have c12b0 : ((rd l0 1) == 255) = false := beq_eq_false_iff_ne.mpr c12
                  have c12b1 : ((rd l0 1) != 255) = true := bne_iff_ne.mpr c12
                  simp only [Option.some.injEq, Prod.mk.injEq] at H
                  obtain ⟨rfl, rfl, rfl⟩ := H
                  have p129 : 0 ≤ (0 : Int) := (by omega)
                  have q129 : 0 < (l0.length : Int) := of_decide_eq_true (by first | (with_reducible assumption) | assumption)
                  obtain ⟨ad129, e129, hx129_0⟩ := Kd.at_int HR0.out 0 p129 q129
                  cases e129
                  have qi129 : (0 < l0.length) = True := eq_true (by omega)
                  (try rw [show ((0 : Int)).toNat = 0 from rfl] at hx129_0)
                  (try rw [Addr.add_zero'] at hx129_0)
                  replace p129 := eq_true p129
                  replace q129 := eq_true q129
                  have p132 : 0 ≤ (1 : Int) := (by omega)
                  have q132 : 1 < (l0.length : Int) := of_decide_eq_true (by first | (with_reducible assumption) | assumption)
                  obtain ⟨ad132, e132, hx132_0⟩ := Kd.at_int HR0.out 1 p132 q132
                  obtain rfl : ad129 = ad132 := (by injection e132)
                  (try simp only [show (1 : Int).toNat = 1 from rfl, Nat.reduceMul, Nat.reduceEqDiff, Go.Addr.add, ↓reduceIte] at hx132_0)
                  have qi132 : (1 < l0.length) = True := eq_true (by omega)
                  (try rw [show ((1 : Int)).toNat = 1 from rfl] at hx132_0)
                  replace p132 := eq_true p132
                  replace q132 := eq_true q132
                  have p133 : 0 ≤ (0 : Int) := (by omega)
                  have q133 : 0 < (l0.length : Int) := of_decide_eq_true (by first | (with_reducible assumption) | assumption)
                  obtain ⟨ad133, e133, hx133_0⟩ := Kd.at_int HR0.out 0 p133 q133
                  obtain rfl : ad129 = ad133 := (by injection e133)
                  have qi133 : (0 < l0.length) = True := eq_true (by omega)
                  (try rw [show ((0 : Int)).toNat = 0 from rfl] at hx133_0)
                  (try rw [Addr.add_zero'] at hx133_0)
                  replace p133 := eq_true p133
                  replace q133 := eq_true q133
                  have p134 : 0 ≤ (1 : Int) := (by omega)
                  have q134 : 1 < (l0.length : Int) := of_decide_eq_true (by first | (with_reducible assumption) | assumption)
                  obtain ⟨ad134, e134, hx134_0⟩ := Kd.at_int HR0.out 1 p134 q134
                  obtain rfl : ad129 = ad134 := (by injection e134)
                  (try simp only [show (1 : Int).toNat = 1 from rfl, Nat.reduceMul, Nat.reduceEqDiff, Go.Addr.add, ↓reduceIte] at hx134_0)
                  have qi134 : (1 < l0.length) = True := eq_true (by omega)
                  (try rw [show ((1 : Int)).toNat = 1 from rfl] at hx134_0)
                  replace p134 := eq_true p134
                  replace q134 := eq_true q134
                  have p135 : 0 ≤ (0 : Int) := (by omega)
                  have q135 : 0 < (l0.length : Int) := of_decide_eq_true (by first | (with_reducible assumption) | assumption)
                  obtain ⟨ad135, e135, hx135_0⟩ := Kd.at_int HR0.out 0 p135 q135
                  obtain rfl : ad129 = ad135 := (by injection e135)
                  have qi135 : (0 < l0.length) = True := eq_true (by omega)
                  (try rw [show ((0 : Int)).toNat = 0 from rfl] at hx135_0)
                  (try rw [Addr.add_zero'] at hx135_0)
                  replace p135 := eq_true p135
                  replace q135 := eq_true q135
                  have p136 : 0 ≤ (1 : Int) := (by omega)
                  have q136 : 1 < (l0.length : Int) := of_decide_eq_true (by first | (with_reducible assumption) | assumption)
                  obtain ⟨ad136, e136, hx136_0⟩ := Kd.at_int HR0.out 1 p136 q136
                  obtain rfl : ad129 = ad136 := (by injection e136)
                  (try simp only [show (1 : Int).toNat = 1 from rfl, Nat.reduceMul, Nat.reduceEqDiff, Go.Addr.add, ↓reduceIte] at hx136_0)
                  have qi136 : (1 < l0.length) = True := eq_true (by omega)
                  (try rw [show ((1 : Int)).toNat = 1 from rfl] at hx136_0)
                  replace p136 := eq_true p136
                  replace q136 := eq_true q136
                  go_enter Tryd.func59, Tryd.ntmps59
                  go_wp2
                  repeat (go_quiet (fail); try go_wp2)
                  go_ret3
                  exact ⟨by first | rfl | (simp; done) | (simp [*]; done), by repeat (first | exact Drawn0.refl _ | apply Drawn0.step)⟩
              · rw [if_neg c11] at H
                have c11b0 : ((rd l0 0) == 0) = false := beq_eq_false_iff_ne.mpr c11
                have c11b1 : ((rd l0 0) != 0) = true := bne_iff_ne.mpr c11
                simp only [Option.some.injEq, Prod.mk.injEq] at H
                obtain ⟨rfl, rfl, rfl⟩ := H
                have p129 : 0 ≤ (0 : Int) := (by omega)
                have q129 : 0 < (l0.length : Int) := of_decide_eq_true (by first | (with_reducible assumption) | assumption)
                obtain ⟨ad129, e129, hx129_0⟩ := Kd.at_int HR0.out 0 p129 q129
                cases e129
                have qi129 : (0 < l0.length) = True := eq_true (by omega)
                (try rw [show ((0 : Int)).toNat = 0 from rfl] at hx129_0)
                (try rw [Addr.add_zero'] at hx129_0)
                replace p129 := eq_true p129
                replace q129 := eq_true q129
                have p132 : 0 ≤ (1 : Int) := (by omega)
                have q132 : 1 < (l0.length : Int) := of_decide_eq_true (by first | (with_reducible assumption) | assumption)
                obtain ⟨ad132, e132, hx132_0⟩ := Kd.at_int HR0.out 1 p132 q132
                obtain rfl : ad129 = ad132 := (by injection e132)
                (try simp only [show (1 : Int).toNat = 1 from rfl, Nat.reduceMul, Nat.reduceEqDiff, Go.Addr.add, ↓reduceIte] at hx132_0)
                have qi132 : (1 < l0.length) = True := eq_true (by omega)
                (try rw [show ((1 : Int)).toNat = 1 from rfl] at hx132_0)
                replace p132 := eq_true p132
                replace q132 := eq_true q132
                have p133 : 0 ≤ (0 : Int) := (by omega)
                have q133 : 0 < (l0.length : Int) := of_decide_eq_true (by first | (with_reducible assumption) | assumption)
                obtain ⟨ad133, e133, hx133_0⟩ := Kd.at_int HR0.out 0 p133 q133
                obtain rfl : ad129 = ad133 := (by injection e133)
                have qi133 : (0 < l0.length) = True := eq_true (by omega)
                (try rw [show ((0 : Int)).toNat = 0 from rfl] at hx133_0)
                (try rw [Addr.add_zero'] at hx133_0)
                replace p133 := eq_true p133
                replace q133 := eq_true q133
                have p137 : 0 ≤ (0 : Int) := (by omega)
                have q137 : 0 < (l0.length : Int) := of_decide_eq_true (by first | (with_reducible assumption) | assumption)
                obtain ⟨ad137, e137, hx137_0⟩ := Kd.at_int HR0.out 0 p137 q137
                obtain rfl : ad129 = ad137 := (by injection e137)
                have qi137 : (0 < l0.length) = True := eq_true (by omega)
                (try rw [show ((0 : Int)).toNat = 0 from rfl] at hx137_0)
                (try rw [Addr.add_zero'] at hx137_0)
                replace p137 := eq_true p137
                replace q137 := eq_true q137
                have p138 : 0 ≤ (1 : Int) := (by omega)
                have q138 : 1 < (l0.length : Int) := of_decide_eq_true (by first | (with_reducible assumption) | assumption)
                obtain ⟨ad138, e138, hx138_0⟩ := Kd.at_int HR0.out 1 p138 q138
                obtain rfl : ad129 = ad138 := (by injection e138)
                (try simp only [show (1 : Int).toNat = 1 from rfl, Nat.reduceMul, Nat.reduceEqDiff, Go.Addr.add, ↓reduceIte] at hx138_0)
                have qi138 : (1 < l0.length) = True := eq_true (by omega)
                (try rw [show ((1 : Int)).toNat = 1 from rfl] at hx138_0)
                replace p138 := eq_true p138
                replace q138 := eq_true q138
                go_enter Tryd.func59, Tryd.ntmps59
                go_wp2
                repeat (go_quiet (fail); try go_wp2)
                go_ret3
                exact ⟨by first | rfl | (simp; done) | (simp [*]; done), by repeat (first | exact Drawn0.refl _ | apply Drawn0.step)⟩
          · rw [if_neg c9] at H
            exact absurd H (by simp)
    · rw [if_neg c4] at H
      exact absurd H (by simp)

end Go.Proofs.YtggpejjfgphihaaDoor.H
