-- Printed by the session's own turn of the kit's print program (wip/pprint.py): not trusted, Lean checks it.
import Derived.Test.YtggpejjfgphihaaDoorDx0
namespace Go.Proofs.YtggpejjfgphihaaDoor.D
open Go.Proofs.YtggpejjfgphihaaDoor.Given Go.RowKit Go.Proofs.YtggpejjfgphihaaDoorW.PrintWords Go.Proofs.YtggpejjfgphihaaDoorW.PrintLast Go.Proofs.YtggpejjfgphihaaDoorW.PrintMore
attribute [local go_sem] max2_int min2_int max_two min_two max_three min_three max_four min_four   -- for this text's walks alone
set_option linter.unusedVariables false
set_option linter.unusedSimpArgs false

/-! ### marlineref02_More: function 38 -/
mutual
def marlineref02_More.j0 : Nat → Int → List Int → Int → Option (Int)
  | 0, _, _, _ => none
  | k + 1, x1, x2, x7 => marlineref02_More.l0 k x1 x2 x7 0
def marlineref02_More.l0 : Nat → Int → List Int → Int → Int → Option (Int)
  | 0, _, _, _, _ => none
  | k + 1, x1, x2, x7, x8 => if x8 < (x2.length : Int) then (if 0 ≤ x8 then (marlineref02_More.l1 k (Go.bits .xor .u32 x1 ((rd x2 x8) % 4294967296)) x2 x7 x8 0) else (none)) else (some x1)
def marlineref02_More.l1 : Nat → Int → List Int → Int → Int → Int → Option (Int)
  | 0, _, _, _, _, _ => none
  | k + 1, x1, x2, x7, x8, x9 => if x9 < 8 then (if (Int.tmod x1 2) = 1 then (marlineref02_More.l1 k (Go.bits .xor .u32 ((Int.tdiv x1 2) % 4294967296) x7) x2 x7 x8 (wrap64 (x9 + 1))) else (marlineref02_More.l1 k ((Int.tdiv x1 2) % 4294967296) x2 x7 x8 (wrap64 (x9 + 1)))) else (marlineref02_More.l0 k x1 x2 x7 (wrap64 (x8 + 1)))
end
def marlineref02_More.f (k : Nat) (a0 : Bool) (a1 : Int) (l2 : List Int) : Option (Int) := if a0 = true then (marlineref02_More.j0 k a1 l2 3988292384) else (marlineref02_More.j0 k (Int.tmod a1 65536) l2 33800)
theorem marlineref02_More.mono_l : ∀ k, (∀ y0 y1 y2, LeO (marlineref02_More.j0 k y0 y1 y2) (marlineref02_More.j0 (k + 1) y0 y1 y2)) ∧ (∀ y0 y1 y2 y3, LeO (marlineref02_More.l0 k y0 y1 y2 y3) (marlineref02_More.l0 (k + 1) y0 y1 y2 y3)) ∧ (∀ y0 y1 y2 y3 y4, LeO (marlineref02_More.l1 k y0 y1 y2 y3 y4) (marlineref02_More.l1 (k + 1) y0 y1 y2 y3 y4))
  | 0 => ⟨fun _ _ _ r h => by simp [marlineref02_More.j0] at h, fun _ _ _ _ r h => by simp [marlineref02_More.l0] at h, fun _ _ _ _ _ r h => by simp [marlineref02_More.l1] at h⟩
  | k + 1 => by
    obtain ⟨ih0, ih1, ih2⟩ := marlineref02_More.mono_l k
    refine ⟨?_, ?_, ?_⟩
    · intro y0 y1 y2
      unfold marlineref02_More.j0
      repeat' first
      | (with_reducible exact ih0 _ _ _)
      | (with_reducible exact ih1 _ _ _ _)
      | (with_reducible exact ih2 _ _ _ _ _)
      | (with_reducible exact LeO.refl _)
      | (with_reducible exact LeO.none _)
      | (with_reducible refine LeO.ite ?_ ?_)
      | (with_reducible refine LeO.bind ?_ (fun _ => ?_))
      | exact ih0 _ _ _
      | exact ih1 _ _ _ _
      | exact ih2 _ _ _ _ _
      | exact LeO.none _
      | refine LeO.ite ?_ ?_
      | refine LeO.bind ?_ (fun _ => ?_)
    · intro y0 y1 y2 y3
      unfold marlineref02_More.l0
      repeat' first
      | (with_reducible exact ih0 _ _ _)
      | (with_reducible exact ih1 _ _ _ _)
      | (with_reducible exact ih2 _ _ _ _ _)
      | (with_reducible exact LeO.refl _)
      | (with_reducible exact LeO.none _)
      | (with_reducible refine LeO.ite ?_ ?_)
      | (with_reducible refine LeO.bind ?_ (fun _ => ?_))
      | exact ih0 _ _ _
      | exact ih1 _ _ _ _
      | exact ih2 _ _ _ _ _
      | exact LeO.none _
      | refine LeO.ite ?_ ?_
      | refine LeO.bind ?_ (fun _ => ?_)
    · intro y0 y1 y2 y3 y4
      unfold marlineref02_More.l1
      repeat' first
      | (with_reducible exact ih0 _ _ _)
      | (with_reducible exact ih1 _ _ _ _)
      | (with_reducible exact ih2 _ _ _ _ _)
      | (with_reducible exact LeO.refl _)
      | (with_reducible exact LeO.none _)
      | (with_reducible refine LeO.ite ?_ ?_)
      | (with_reducible refine LeO.bind ?_ (fun _ => ?_))
      | exact ih0 _ _ _
      | exact ih1 _ _ _ _
      | exact ih2 _ _ _ _ _
      | exact LeO.none _
      | refine LeO.ite ?_ ?_
      | refine LeO.bind ?_ (fun _ => ?_)
theorem marlineref02_More.mono : ∀ a0 a1 a2 k, LeO (marlineref02_More.f k a0 a1 a2) (marlineref02_More.f (k + 1) a0 a1 a2) := by
  intro a0 a1 a2 k
  obtain ⟨ih0, ih1, ih2⟩ := marlineref02_More.mono_l k
  unfold marlineref02_More.f
  repeat' first
      | (with_reducible exact ih0 _ _ _)
      | (with_reducible exact ih1 _ _ _ _)
      | (with_reducible exact ih2 _ _ _ _ _)
      | (with_reducible exact LeO.refl _)
      | (with_reducible exact LeO.none _)
      | (with_reducible refine LeO.ite ?_ ?_)
      | (with_reducible refine LeO.bind ?_ (fun _ => ?_))
      | exact ih0 _ _ _
      | exact ih1 _ _ _ _
      | exact ih2 _ _ _ _ _
      | exact LeO.none _
      | refine LeO.ite ?_ ?_
      | refine LeO.bind ?_ (fun _ => ?_)
set_option maxHeartbeats 8000000 in
set_option maxRecDepth 100000 in
theorem marlineref02_More.calls (k : Nat) (a0 : Bool) (a1 : Int) (A2 : Option Addr) (c2 : Nat) (l2 : List Int) (r : Int) (w : World) (hr2 : Kd.C (Kd.int .u8) w A2 l2.length l2) (hc2 : l2.length ≤ c2) (h : marlineref02_More.f k a0 a1 l2 = some r) :
    Calls Tryd.prog 38 #[.bool a0, .int .u32 a1, .slice A2 l2.length c2] w fun e w' => e = .returned (.int .u32 r) ∧ Drawn0 w w' := by
  have HR2 := Aside0.mk hr2
  have HC2 := Aside0.mk hc2
  clear hr2 hc2
  have H : (if a0 = true then (marlineref02_More.j0 k a1 l2 3988292384) else (marlineref02_More.j0 k (Int.tmod a1 65536) l2 33800)) = some r := h
  clear h
  have HC4 := Aside0.mk H
  clear H
  go_enter Tryd.func38, Tryd.ntmps38
  go_upto_if 10 with (fail)
  go_cut [1, 7] (fun v1 v7 wc => ∃ (kq : Nat) (x1_3 : Int) (x7_3 : Int), v1 = .int .u32 x1_3 ∧ v7 = .int .u32 x7_3 ∧ Aside0 (marlineref02_More.j0 kq x1_3 l2 x7_3 = some r) ∧ Aside0 (kq ≤ k) ∧ Drawn0 w wc)
  case first =>
    have H := HC4.out
    clear HC4
    by_cases c5 : a0 = true
    · subst c5
      have H1 : (marlineref02_More.j0 k a1 l2 3988292384) = some r := by rw [if_pos rfl] at H; exact H
      clear H
      have H := H1
      clear H1
      have H' := Aside0.mk H
      clear H
      go_wp2
      go_meet
      case rel => exact ⟨_, (a1), (3988292384), (by first | rfl | (simp; done) | (simp [*]; done)), (by first | rfl | (simp; done) | (simp [*]; done)), H', ⟨by first | omega | exact Nat.le_refl _⟩, by repeat (first | exact Drawn0.refl _ | apply Drawn0.step)⟩
    · replace c5 := Bool.eq_false_iff.mpr c5
      subst c5
      have H1 : (marlineref02_More.j0 k (Int.tmod a1 65536) l2 33800) = some r := by rw [if_neg (show ¬ (false = true) by decide)] at H; exact H
      clear H
      have H := H1
      clear H1
      have H' := Aside0.mk H
      clear H
      go_wp2
      go_meet
      case rel => exact ⟨_, (Int.tmod a1 65536), (33800), (by first | rfl | (simp; done) | (simp [*]; done)), (by first | rfl | (simp; done) | (simp [*]; done)), H', ⟨by first | omega | exact Nat.le_refl _⟩, by repeat (first | exact Drawn0.refl _ | apply Drawn0.step)⟩
  case rest =>
    clear HC4
    try clear c2
    try clear p2
    try clear c3
    try clear c5
    obtain ⟨kq, x1_3, x7_3, rfl, rfl, HA, HJ3, ⟨mc3, rfl⟩⟩ := hcut
    cases kq with
    | zero => exact absurd HA.out (by simp [marlineref02_More.j0])
    | succ kj3 =>
      have H := HA.out
      clear HA
      simp only [marlineref02_More.j0] at H
      have H' := Aside0.mk H
      clear H
      go_wp2
      go_loopg [1, 8] kj3 (fun kq v1 v8 w' => ∃ (x1_2 : Int) (x8_2 : Int), v1 = .int .u32 x1_2 ∧ v8 = .int .i64 x8_2 ∧ Aside0 (marlineref02_More.l0 kq x1_2 l2 x7_3 x8_2 = some r) ∧ Aside0 (kq ≤ kj3) ∧ Drawn0 w w')
      case atStart => exact ⟨(x1_3), (0), (by first | rfl | (simp; done) | (simp [*]; done)), (by first | rfl | (simp; done) | (simp [*]; done)), H', ⟨Nat.le_refl _⟩, by repeat (first | exact Drawn0.refl _ | apply Drawn0.step)⟩
      case round =>
        clear H'
        try clear c2
        try clear p2
        try clear c3
        try clear c5
        try clear p2
        obtain ⟨x1_2, x8_2, rfl, rfl, HA, HK2, ⟨m2, rfl⟩⟩ := hrel
        cases gk with
        | zero => exact absurd HA.out (by simp [marlineref02_More.l0])
        | succ k2 =>
          have H := HA.out
          clear HA
          simp only [marlineref02_More.l0] at H
          by_cases c6 : x8_2 < (l2.length : Int)
          · rw [if_pos c6] at H
            have c6b0 : decide (x8_2 < (l2.length : Int)) = true := decide_eq_true c6
            clear c6
            by_cases c7 : 0 ≤ x8_2
            · rw [if_pos c7] at H
              have c7b0 : decide (0 ≤ x8_2) = true := decide_eq_true c7
              clear c7
              have H' := Aside0.mk H
              clear H
              have p118 : 0 ≤ (x8_2 : Int) := of_decide_eq_true (by first | (with_reducible assumption) | assumption)
              have q118 : x8_2 < (l2.length : Int) := of_decide_eq_true (by first | (with_reducible assumption) | assumption)
              obtain ⟨ad118, e118, hx118_0⟩ := Kd.at_int HR2.out x8_2 p118 q118
              cases e118
              replace p118 := eq_true p118
              replace q118 := eq_true q118
              go_wp2
              go_loopg [1, 9] k2 (fun kq v1 v9 w' => ∃ (x1_3 : Int) (x9_3 : Int), v1 = .int .u32 x1_3 ∧ v9 = .int .i64 x9_3 ∧ Aside0 (marlineref02_More.l1 kq x1_3 l2 x7_3 x8_2 x9_3 = some r) ∧ Aside0 (kq ≤ k2) ∧ Drawn0 w w')
              case atStart => exact ⟨(Go.bits .xor .u32 x1_2 ((rd l2 x8_2) % 4294967296)), (0), (by first | rfl | (simp; done) | (simp [*]; done)), (by first | rfl | (simp; done) | (simp [*]; done)), H', ⟨Nat.le_refl _⟩, by repeat (first | exact Drawn0.refl _ | apply Drawn0.step)⟩
              case round =>
                clear H'
                try clear p1
                try clear q1
                try clear hx1
                try clear c2
                try clear p2
                try clear c3
                try clear c5
                try clear c6
                try clear c6b0
                try clear c7
                try clear c7b0
                try clear hx118_0
                try clear p118
                try clear p2
                try clear q118
                obtain ⟨x1_3, x9_3, rfl, rfl, HA, HK3, ⟨m3, rfl⟩⟩ := hrel
                cases gk with
                | zero => exact absurd HA.out (by simp [marlineref02_More.l1])
                | succ k3 =>
                  have H := HA.out
                  clear HA
                  simp only [marlineref02_More.l1] at H
                  by_cases c8 : x9_3 < 8
                  · rw [if_pos c8] at H
                    have c8b0 : decide (x9_3 < 8) = true := decide_eq_true c8
                    clear c8
                    by_cases c9 : (Int.tmod x1_3 2) = 1
                    · rw [if_pos c9] at H
                      have c9b0 : ((Int.tmod x1_3 2) == 1) = true := beq_iff_eq.mpr c9
                      have c9b1 : ((Int.tmod x1_3 2) != 1) = false := bne_eq_false_iff_eq.mpr c9
                      clear c9
                      have H' := Aside0.mk H
                      clear H
                      go_wp2
                      go_roundg k3
                      case measure => have := HJ3.out; have := HK2.out; have := HK3.out; omega
                      case rel => exact ⟨(Go.bits .xor .u32 ((Int.tdiv x1_3 2) % 4294967296) x7_3), (wrap64 (x9_3 + 1)), (by first | rfl | (simp; done) | (simp [*]; done)), (by first | rfl | (simp; done) | (simp [*]; done)), H', ⟨by have := HJ3.out; have := HK2.out; have := HK3.out; omega⟩, by repeat (first | exact Drawn0.refl _ | apply Drawn0.step)⟩
                    · rw [if_neg c9] at H
                      have c9b0 : ((Int.tmod x1_3 2) == 1) = false := beq_eq_false_iff_ne.mpr c9
                      have c9b1 : ((Int.tmod x1_3 2) != 1) = true := bne_iff_ne.mpr c9
                      have H' := Aside0.mk H
                      clear H
                      go_wp2
                      go_roundg k3
                      case measure => have := HJ3.out; have := HK2.out; have := HK3.out; omega
                      case rel => exact ⟨((Int.tdiv x1_3 2) % 4294967296), (wrap64 (x9_3 + 1)), (by first | rfl | (simp; done) | (simp [*]; done)), (by first | rfl | (simp; done) | (simp [*]; done)), H', ⟨by have := HJ3.out; have := HK2.out; have := HK3.out; omega⟩, by repeat (first | exact Drawn0.refl _ | apply Drawn0.step)⟩
                  · rw [if_neg c8] at H
                    have c8b0 : decide (x9_3 < 8) = false := decide_eq_false c8
                    clear c8
                    have H' := Aside0.mk H
                    clear H
                    go_wp2
                    go_roundg k3
                    case measure => have := HJ3.out; have := HK2.out; have := HK3.out; omega
                    case rel => exact ⟨(x1_3), (wrap64 (x8_2 + 1)), (by first | rfl | (simp; done) | (simp [*]; done)), (by first | rfl | (simp; done) | (simp [*]; done)), H', ⟨by have := HJ3.out; have := HK2.out; have := HK3.out; omega⟩, by repeat (first | exact Drawn0.refl _ | apply Drawn0.step)⟩
            · rw [if_neg c7] at H
              exact absurd H (by simp)
          · rw [if_neg c6] at H
            have c6b0 : decide (x8_2 < (l2.length : Int)) = false := decide_eq_false c6
            clear c6
            obtain rfl := Option.some.inj H
            go_wp2
            go_ret
            exact ⟨by first | rfl | (simp; done) | (simp [*]; done), by repeat (first | exact Drawn0.refl _ | apply Drawn0.step)⟩

/-! ### fcs_Start: function 39 -/
def fcs_Start.f (a0 : Bool) : Option (Int) := (fcs_of.f a0).bind fun bt119 => (some bt119.2.1)
set_option maxHeartbeats 8000000 in
set_option maxRecDepth 100000 in
theorem fcs_Start.calls (a0 : Bool) (r : Int) (w : World) (hgF : GF w) (h : fcs_Start.f a0 = some r) :
    Calls Tryd.prog 39 #[.bool a0] w fun e w' => e = .returned (.int .u32 r) ∧ Below w.heap.size w w' := by
  have hfd80_1 : ∀ (v0_ v1_ v2_ v3_ : Value) (W_ : World), (Instr.field 80 (.agg #[v0_, v1_, v2_, v3_]) 1).run Tryd.prog W_ = .ok v1_ W_ := fun _ _ _ _ _ => by kernel_rfl
  have HGF := Aside0.mk hgF
  clear hgF
  have HB := Aside0.mk (Below.refl w.heap.size w)
  have H : ((fcs_of.f a0).bind fun bt119 => (some bt119.2.1)) = some r := h
  clear h
  replace H := Option.bind_eq_some_iff.mp H
  obtain ⟨⟨t119, t120, t121, t122⟩, A20, H⟩ := H
  replace H : (some t120) = some r := H
  have A2 := Aside0.mk A20
  clear A20
  obtain rfl := Option.some.inj H
  go_enter Tryd.func39, Tryd.ntmps39
  go_wp2_with (first | ((with_reducible refine gate_callee (f := 56) rfl ?_); refine goesL_ (some 4) rfl rfl Tryd.func56 (by kernel_rfl) rfl #[.bool a0] rfl (by (try simp only [List.map_toArray, List.map_cons, List.map_nil]); first | done | rfl | (simp only [List.length_drop, List.length_take]; rfl)) ?_; (with_reducible refine (fcs_of.calls a0 t119 t120 t121 t122 _ ?side1 A2.out).mono ?_); (case side1 => repeat (first | exact HGF.out | (with_reducible refine GF_alloc ?_ _) | (with_reducible refine GF_drewN ?_ _) | (with_reducible refine GF_drew ?_))); rintro e w3 ⟨rfl, hb⟩; refine ⟨_, rfl, ?_⟩; have n0_ := Aside0.mk (below_step (by repeat (first | (with_reducible first | exact HB.out | apply below_alloc | apply pw_below_drewN | apply below_drew1) | exact HB.out)) hb); clear HB; have HB := n0_; clear n0_; (try clear hb); (try clear hb2); (try clear hk); (try clear hi)))
  go_ret
  exact ⟨by first | rfl | (simp [errW_none, errW_some] <;> rfl) | (simp [*, errW_none, errW_some] <;> rfl), by repeat (first | (with_reducible first | exact HB.out | apply below_alloc | apply pw_below_drewN | apply below_drew1) | exact HB.out)⟩

end Go.Proofs.YtggpejjfgphihaaDoor.D
