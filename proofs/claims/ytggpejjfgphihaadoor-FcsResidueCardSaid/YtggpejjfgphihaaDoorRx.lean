-- Printed by the session's own turn of the kit's print program (wip/pprint.py): not trusted, Lean checks it.
import Derived.Test.YtggpejjfgphihaaDoorQx0
namespace Go.Proofs.YtggpejjfgphihaaDoor.Q
open Go.Proofs.YtggpejjfgphihaaDoor.Given Go.Proofs.YtggpejjfgphihaaDoor.D Go.RowKit Go.Proofs.YtggpejjfgphihaaDoorW.PrintWords Go.Proofs.YtggpejjfgphihaaDoorW.PrintLast Go.Proofs.YtggpejjfgphihaaDoorW.PrintMore
attribute [local go_sem] max2_int min2_int max_two min_two max_three min_three max_four min_four   -- for this text's walks alone
set_option linter.unusedVariables false
set_option linter.unusedSimpArgs false

/-! ### marlinelaw02_FcsResidue: function 9 -/
mutual
def marlinelaw02_FcsResidue.j0 : Nat → List Int → Bool → List Int → Bool → Option (Bool)
  | 0, _, _, _, _ => none
  | k + 1, x0, x1, x5, x16 => if x16 = true then ((marlinelaw02_speaks.f).bind fun t102 => (some t102)) else ((fcs_Trailer.f k x1 x0).bind fun t103 => (if x1 = true then (marlinelaw02_FcsResidue.j1 k x0 x1 x5 t103 3736805603) else (marlinelaw02_FcsResidue.j1 k x0 x1 x5 t103 61624)))
def marlinelaw02_FcsResidue.j1 : Nat → List Int → Bool → List Int → List Int → Int → Option (Bool)
  | 0, _, _, _, _, _ => none
  | k + 1, x0, x1, x5, x7, x8 => (fcs_Size.f x1).bind fun t106 => (if (x7.length : Int) = t106 then (if (x7.length : Int) > 4 then (marlinelaw02_FcsResidue.j2 k x0 x1 x5 x7 x8 true) else ((fcs_Start.f x1).bind fun t107 => ((some (([] : List Int) : List Int)).bind fun y108 => (if y108.length + x0.length < 140737488355328 then ((some (y108 ++ x0 : List Int)).bind fun y111 => (if y111.length + x7.length < 140737488355328 then ((fcs_More.f x1 t107 (y111 ++ x7)).bind fun t117 => (marlinelaw02_FcsResidue.j2 k x0 x1 x5 x7 x8 (t117 != x8))) else (none))) else (none))))) else (marlinelaw02_FcsResidue.j2 k x0 x1 x5 x7 x8 true))
def marlinelaw02_FcsResidue.j2 : Nat → List Int → Bool → List Int → List Int → Int → Bool → Option (Bool)
  | 0, _, _, _, _, _, _ => none
  | k + 1, x0, x1, x5, x7, x8, x44 => if x44 = true then (some false) else (if 0 ≤ (x7.length : Int) then (if (x7.length : Int) ≤ (x5.length : Int) then ((marlineref01_Equal.f k (x5.take ((x7.length : Int) : Int).toNat) x7).bind fun t119 => (if t119 = true then (some true) else ((fcs_Start.f x1).bind fun t120 => ((some (([] : List Int) : List Int)).bind fun y121 => (if y121.length + x0.length < 140737488355328 then ((some (y121 ++ x0 : List Int)).bind fun y124 => (if y124.length + (x5.take ((x7.length : Int) : Int).toNat).length < 140737488355328 then ((fcs_More.f x1 t120 (y124 ++ (x5.take ((x7.length : Int) : Int).toNat))).bind fun t130 => (some (t130 != x8))) else (none))) else (none)))))) else (none)) else (none))
end
def marlinelaw02_FcsResidue.f (k : Nat) (l0 : List Int) (a1 : Bool) (l2 : List Int) : Option (Bool) := (marlinelaw02_speaks.f).bind fun t101 => (if t101 = true then (marlinelaw02_FcsResidue.j0 k l0 a1 l2 (decide ((l0.length : Int) > 400))) else (marlinelaw02_FcsResidue.j0 k l0 a1 l2 true))
theorem marlinelaw02_FcsResidue.mono_l : ∀ k, (∀ y0 y1 y2 y3, LeO (marlinelaw02_FcsResidue.j0 k y0 y1 y2 y3) (marlinelaw02_FcsResidue.j0 (k + 1) y0 y1 y2 y3)) ∧ (∀ y0 y1 y2 y3 y4, LeO (marlinelaw02_FcsResidue.j1 k y0 y1 y2 y3 y4) (marlinelaw02_FcsResidue.j1 (k + 1) y0 y1 y2 y3 y4)) ∧ (∀ y0 y1 y2 y3 y4 y5, LeO (marlinelaw02_FcsResidue.j2 k y0 y1 y2 y3 y4 y5) (marlinelaw02_FcsResidue.j2 (k + 1) y0 y1 y2 y3 y4 y5))
  | 0 => ⟨fun _ _ _ _ r h => by simp [marlinelaw02_FcsResidue.j0] at h, fun _ _ _ _ _ r h => by simp [marlinelaw02_FcsResidue.j1] at h, fun _ _ _ _ _ _ r h => by simp [marlinelaw02_FcsResidue.j2] at h⟩
  | k + 1 => by
    obtain ⟨ih0, ih1, ih2⟩ := marlinelaw02_FcsResidue.mono_l k
    refine ⟨?_, ?_, ?_⟩
    · intro y0 y1 y2 y3
      unfold marlinelaw02_FcsResidue.j0
      repeat' first
      | (with_reducible exact ih0 _ _ _ _)
      | (with_reducible exact ih1 _ _ _ _ _)
      | (with_reducible exact ih2 _ _ _ _ _ _)
      | (with_reducible exact fcs_Trailer.mono _ _ _)
      | (with_reducible exact marlineref01_Equal.mono _ _ _)
      | (with_reducible exact LeO.refl _)
      | (with_reducible exact LeO.none _)
      | (with_reducible refine LeO.ite ?_ ?_)
      | (with_reducible refine LeO.bind ?_ (fun _ => ?_))
      | exact ih0 _ _ _ _
      | exact ih1 _ _ _ _ _
      | exact ih2 _ _ _ _ _ _
      | exact fcs_Trailer.mono _ _ _
      | exact marlineref01_Equal.mono _ _ _
      | exact LeO.none _
      | refine LeO.ite ?_ ?_
      | refine LeO.bind ?_ (fun _ => ?_)
    · intro y0 y1 y2 y3 y4
      unfold marlinelaw02_FcsResidue.j1
      repeat' first
      | (with_reducible exact ih0 _ _ _ _)
      | (with_reducible exact ih1 _ _ _ _ _)
      | (with_reducible exact ih2 _ _ _ _ _ _)
      | (with_reducible exact fcs_Trailer.mono _ _ _)
      | (with_reducible exact marlineref01_Equal.mono _ _ _)
      | (with_reducible exact LeO.refl _)
      | (with_reducible exact LeO.none _)
      | (with_reducible refine LeO.ite ?_ ?_)
      | (with_reducible refine LeO.bind ?_ (fun _ => ?_))
      | exact ih0 _ _ _ _
      | exact ih1 _ _ _ _ _
      | exact ih2 _ _ _ _ _ _
      | exact fcs_Trailer.mono _ _ _
      | exact marlineref01_Equal.mono _ _ _
      | exact LeO.none _
      | refine LeO.ite ?_ ?_
      | refine LeO.bind ?_ (fun _ => ?_)
    · intro y0 y1 y2 y3 y4 y5
      unfold marlinelaw02_FcsResidue.j2
      repeat' first
      | (with_reducible exact ih0 _ _ _ _)
      | (with_reducible exact ih1 _ _ _ _ _)
      | (with_reducible exact ih2 _ _ _ _ _ _)
      | (with_reducible exact fcs_Trailer.mono _ _ _)
      | (with_reducible exact marlineref01_Equal.mono _ _ _)
      | (with_reducible exact LeO.refl _)
      | (with_reducible exact LeO.none _)
      | (with_reducible refine LeO.ite ?_ ?_)
      | (with_reducible refine LeO.bind ?_ (fun _ => ?_))
      | exact ih0 _ _ _ _
      | exact ih1 _ _ _ _ _
      | exact ih2 _ _ _ _ _ _
      | exact fcs_Trailer.mono _ _ _
      | exact marlineref01_Equal.mono _ _ _
      | exact LeO.none _
      | refine LeO.ite ?_ ?_
      | refine LeO.bind ?_ (fun _ => ?_)
theorem marlinelaw02_FcsResidue.mono : ∀ a0 a1 a2 k, LeO (marlinelaw02_FcsResidue.f k a0 a1 a2) (marlinelaw02_FcsResidue.f (k + 1) a0 a1 a2) := by
  intro a0 a1 a2 k
  obtain ⟨ih0, ih1, ih2⟩ := marlinelaw02_FcsResidue.mono_l k
  unfold marlinelaw02_FcsResidue.f
  repeat' first
      | (with_reducible exact ih0 _ _ _ _)
      | (with_reducible exact ih1 _ _ _ _ _)
      | (with_reducible exact ih2 _ _ _ _ _ _)
      | (with_reducible exact fcs_Trailer.mono _ _ _)
      | (with_reducible exact marlineref01_Equal.mono _ _ _)
      | (with_reducible exact LeO.refl _)
      | (with_reducible exact LeO.none _)
      | (with_reducible refine LeO.ite ?_ ?_)
      | (with_reducible refine LeO.bind ?_ (fun _ => ?_))
      | exact ih0 _ _ _ _
      | exact ih1 _ _ _ _ _
      | exact ih2 _ _ _ _ _ _
      | exact fcs_Trailer.mono _ _ _
      | exact marlineref01_Equal.mono _ _ _
      | exact LeO.none _
      | refine LeO.ite ?_ ?_
      | refine LeO.bind ?_ (fun _ => ?_)
theorem arr_len : Tryd.prog.arrayLen 54 = 4 := by kernel_rfl
theorem arr_elem : Tryd.prog.elem 54 = 5 := by kernel_rfl
theorem cut_of (a : Addr) (xs : List Int) (h4 : xs.length = 4) (m : List Int) (j : Int) (h0 : 0 ≤ j) (hj : j ≤ xs.length) (hm : m = xs.take j.toNat) :
    (∀ W : World, (Instr.sliceAt 54 (.pointer (some a)) none (some (.int .i64 j)) none).run Tryd.prog W = .ok (.slice (some a) m.length 4) W) ∧
      (∀ w : World, ReadsOf (Value.int .u8) 0 w (some a) xs.length xs → ReadsOf (Value.int .u8) 0 w (some a) m.length m) ∧ m.length ≤ 4 := by
  subst hm
  obtain ⟨i0, hi0, _, hsz, _⟩ := info_parts info5
  refine ⟨fun W => ?_, (print_take_of (P := Tryd.prog) (Value.int .u8) 0 35 5 .i64 Tryd.underlying35 hi0 hsz (some a) 4 xs j h0 hj (by omega)).2⟩
  have hl : (xs.take j.toNat).length = j.toNat := by rw [List.length_take]; omega
  have hu : Tryd.prog.underlying 54 = some (.array (Tryd.prog.arrayLen 54) (Tryd.prog.elem 54)) := by kernel_rfl
  rw [run_sliceAt_array_h W 54 a hu .i64 j h0 (by rw [arr_len]; omega), hl, arr_elem, arr_len]
  simp [sizeOf, typeInfo, hi0, hsz, slicedAt, sliced, Result.andThen, Addr.add]
theorem arr_reads (w : World) (x0 x1 x2 x3 : Int) : Kd.C (Kd.int .u8) (w.alloc (.cells #[.int .u8 x0, .int .u8 x1, .int .u8 x2, .int .u8 x3] 54)) (some ⟨w.heap.size, 0, none⟩) [x0, x1, x2, x3].length [x0, x1, x2, x3] :=
  Kd.C_of_reads (d := (0 : Int)) (h1 := fun _ => rfl) ⟨rfl, by simp, fun _ => ⟨_, rfl, fun j hj => by
      rw [add_plain, cell_of_row _ _ j _ 54 (0, 0) (heap_alloc_new w _)]
      match j, hj with
      | 0, _ => rfl
      | 1, _ => rfl
      | 2, _ => rfl
      | 3, _ => rfl
      | j + 4, hj => exact absurd hj (by simp)⟩⟩

set_option maxHeartbeats 8000000 in
set_option maxRecDepth 100000 in
theorem marlinelaw02_FcsResidue.calls (k : Nat) (A0 : Option Addr) (c0 : Nat) (l0 : List Int) (a1 : Bool) (x0 x1 x2 x3 : Int) (r : Bool) (w : World) (hr0 : Kd.C (Kd.int .u8) w A0 l0.length l0) (hc0 : l0.length ≤ c0) (hgF : GF w) (h : marlinelaw02_FcsResidue.f k l0 a1 [x0, x1, x2, x3] = some r) :
    Calls Tryd.prog 9 #[.slice A0 l0.length c0, .bool a1, .agg #[.int .u8 x0, .int .u8 x1, .int .u8 x2, .int .u8 x3]] w fun e w' => e = .returned (.bool r) ∧ Below w.heap.size w w' := by
  obtain ⟨w1, hw1⟩ : ∃ W, W = w.alloc (.cells #[.int .u8 x0, .int .u8 x1, .int .u8 x2, .int .u8 x3] 54) := ⟨_, rfl⟩
  obtain ⟨l2, hl2⟩ : ∃ l : List Int, l = [x0, x1, x2, x3] := ⟨_, rfl⟩
  obtain ⟨a2, ha2⟩ : ∃ a : Addr, a = ⟨w.heap.size, 0, none⟩ := ⟨_, rfl⟩
  have hr2 : Kd.C (Kd.int .u8) w1 (some a2) l2.length l2 := by rw [hw1, ha2, hl2]; exact arr_reads w x0 x1 x2 x3
  have h4 : l2.length = 4 := by rw [hl2]; rfl
  rw [← hl2] at h
  have HL4 := Aside0.mk h4
  have HR2 := Aside0.mk hr2
  have HR0 := Aside0.mk (show Kd.C (Kd.int .u8) w1 A0 l0.length l0 by rw [hw1]; exact Kd.C_alloc hr0 _)
  have HC0 := Aside0.mk hc0
  have HGF := Aside0.mk (show GF w1 by rw [hw1]; exact GF_alloc hgF _)
  have HBW := Aside0.mk (show Below w.heap.size w w1 by rw [hw1]; exact (Below.refl w.heap.size w).alloc (Nat.le_refl _) _)
  clear hr0 hc0 hgF hr2 h4 hl2
  have HB := Aside0.mk (Below.refl w1.heap.size w1)
  have H : ((marlinelaw02_speaks.f).bind fun t101 => (if t101 = true then (marlinelaw02_FcsResidue.j0 k l0 a1 l2 (decide ((l0.length : Int) > 400))) else (marlinelaw02_FcsResidue.j0 k l0 a1 l2 true))) = some r := h
  clear h
  have HC4 := Aside0.mk H
  clear H
  go_enter Tryd.func9, Tryd.ntmps9
  go_upto_region 1 with (fail)
  rw [← hw1, ← ha2]
  clear hw1 ha2
  go_cut [16] (fun v16 wc => ∃ (kq : Nat) (x16_3 : Bool), v16 = .bool x16_3 ∧ Aside0 (marlinelaw02_FcsResidue.j0 kq l0 a1 l2 x16_3 = some r) ∧ Aside0 (kq ≤ k) ∧ Aside0 (Below w1.heap.size w1 wc))
  case first =>
    have H := HC4.out
    clear HC4
    replace H := Option.bind_eq_some_iff.mp H
    obtain ⟨t101, A50, H⟩ := H
    replace H : (if t101 = true then (marlinelaw02_FcsResidue.j0 k l0 a1 l2 (decide ((l0.length : Int) > 400))) else (marlinelaw02_FcsResidue.j0 k l0 a1 l2 true)) = some r := H
    have A5 := Aside0.mk A50
    clear A50
    by_cases c6 : t101 = true
    · subst c6
      have H1 : (marlinelaw02_FcsResidue.j0 k l0 a1 l2 (decide ((l0.length : Int) > 400))) = some r := by rw [if_pos rfl] at H; exact H
      clear H
      have H := H1
      clear H1
      have H' := Aside0.mk H
      clear H
      go_wp2_with (first | ((with_reducible refine gate_callee (f := 26) rfl ?_); refine goesL_ (some 10) rfl rfl Tryd.func26 (by kernel_rfl) rfl #[] rfl (by (try simp only [List.map_toArray, List.map_cons, List.map_nil]); first | done | rfl | (simp only [List.length_drop, List.length_take]; rfl)) ?_; (with_reducible refine (marlinelaw02_speaks.calls  true _ ?side1 A5.out).mono ?_); (case side1 => repeat (first | exact (GF_below HGF.out HB.out) | (with_reducible refine GF_alloc ?_ _) | (with_reducible refine GF_drewN ?_ _) | (with_reducible refine GF_drew ?_))); rintro e w7 ⟨rfl, hb⟩; refine ⟨_, rfl, ?_⟩; have n0_ := Aside0.mk (below_step (by repeat (first | (with_reducible first | exact HB.out | apply below_alloc | apply pw_below_drewN | apply below_drew1) | exact HB.out)) hb); clear HB; have HB := n0_; clear n0_; (try clear hb); (try clear hb2); (try clear hk); (try clear hi)))
      go_meet
      case rel => exact ⟨_, (decide ((l0.length : Int) > 400)), (by first | rfl | (simp; done) | (simp [*]; done)), H', ⟨by first | omega | exact Nat.le_refl _⟩, ⟨by repeat (first | (with_reducible first | exact HB.out | apply below_alloc | apply pw_below_drewN | apply below_drew1) | exact HB.out)⟩⟩
    · replace c6 := Bool.eq_false_iff.mpr c6
      subst c6
      have H1 : (marlinelaw02_FcsResidue.j0 k l0 a1 l2 true) = some r := by rw [if_neg (show ¬ (false = true) by decide)] at H; exact H
      clear H
      have H := H1
      clear H1
      have H' := Aside0.mk H
      clear H
      go_wp2_with (first | ((with_reducible refine gate_callee (f := 26) rfl ?_); refine goesL_ (some 10) rfl rfl Tryd.func26 (by kernel_rfl) rfl #[] rfl (by (try simp only [List.map_toArray, List.map_cons, List.map_nil]); first | done | rfl | (simp only [List.length_drop, List.length_take]; rfl)) ?_; (with_reducible refine (marlinelaw02_speaks.calls  false _ ?side1 A5.out).mono ?_); (case side1 => repeat (first | exact (GF_below HGF.out HB.out) | (with_reducible refine GF_alloc ?_ _) | (with_reducible refine GF_drewN ?_ _) | (with_reducible refine GF_drew ?_))); rintro e w8 ⟨rfl, hb⟩; refine ⟨_, rfl, ?_⟩; have n0_ := Aside0.mk (below_step (by repeat (first | (with_reducible first | exact HB.out | apply below_alloc | apply pw_below_drewN | apply below_drew1) | exact HB.out)) hb); clear HB; have HB := n0_; clear n0_; (try clear hb); (try clear hb2); (try clear hk); (try clear hi)))
      go_meet
      case rel => exact ⟨_, (true), (by first | rfl | (simp; done) | (simp [*]; done)), H', ⟨by first | omega | exact Nat.le_refl _⟩, ⟨by repeat (first | (with_reducible first | exact HB.out | apply below_alloc | apply pw_below_drewN | apply below_drew1) | exact HB.out)⟩⟩
  case rest =>
    clear HC4
    try clear p2
    try clear c6
    obtain ⟨kq, x16_3, rfl, HA, HJ3, HB⟩ := hcut
    cases kq with
    | zero => exact absurd HA.out (by simp [marlinelaw02_FcsResidue.j0])
    | succ kj3 =>
      have H := HA.out
      clear HA
      simp only [marlinelaw02_FcsResidue.j0] at H
      by_cases c9 : x16_3 = true
      · subst c9
        have H1 : ((marlinelaw02_speaks.f).bind fun t102 => (some t102)) = some r := by rw [if_pos rfl] at H; exact H
        clear H
        have H := H1
        clear H1
        replace H := Option.bind_eq_some_iff.mp H
        obtain ⟨t102, A100, H⟩ := H
        replace H : (some t102) = some r := H
        have A10 := Aside0.mk A100
        clear A100
        obtain rfl := Option.some.inj H
        go_wp2_with (first | ((with_reducible refine gate_callee (f := 26) rfl ?_); refine goesL_ (some 17) rfl rfl Tryd.func26 (by kernel_rfl) rfl #[] rfl (by (try simp only [List.map_toArray, List.map_cons, List.map_nil]); first | done | rfl | (simp only [List.length_drop, List.length_take]; rfl)) ?_; (with_reducible refine (marlinelaw02_speaks.calls  t102 _ ?side1 A10.out).mono ?_); (case side1 => repeat (first | exact (GF_below HGF.out HB.out) | (with_reducible refine GF_alloc ?_ _) | (with_reducible refine GF_drewN ?_ _) | (with_reducible refine GF_drew ?_))); rintro e w11 ⟨rfl, hb⟩; refine ⟨_, rfl, ?_⟩; have n0_ := Aside0.mk (below_step (by repeat (first | (with_reducible first | exact HB.out | apply below_alloc | apply pw_below_drewN | apply below_drew1) | exact HB.out)) hb); clear HB; have HB := n0_; clear n0_; (try clear hb); (try clear hb2); (try clear hk); (try clear hi)))
        go_ret
        exact ⟨by first | rfl | (simp [errW_none, errW_some] <;> rfl) | (simp [*, errW_none, errW_some] <;> rfl), below_then HBW.out HBW.out.size (by repeat (first | (with_reducible first | exact HB.out | apply below_alloc | apply pw_below_drewN | apply below_drew1) | exact HB.out))⟩
      · replace c9 := Bool.eq_false_iff.mpr c9
        subst c9
        have H1 : ((fcs_Trailer.f kj3 a1 l0).bind fun t103 => (if a1 = true then (marlinelaw02_FcsResidue.j1 kj3 l0 a1 l2 t103 3736805603) else (marlinelaw02_FcsResidue.j1 kj3 l0 a1 l2 t103 61624))) = some r := by rw [if_neg (show ¬ (false = true) by decide)] at H; exact H
        clear H
        have H := H1
        clear H1
        replace H := Option.bind_eq_some_iff.mp H
        obtain ⟨t103, A120, H⟩ := H
        replace H : (if a1 = true then (marlinelaw02_FcsResidue.j1 kj3 l0 a1 l2 t103 3736805603) else (marlinelaw02_FcsResidue.j1 kj3 l0 a1 l2 t103 61624)) = some r := H
        have A12 := Aside0.mk A120
        clear A120
        have HC13 := Aside0.mk H
        clear H
        go_upto_if 21 with (first | ((with_reducible refine gate_callee (f := 40) rfl ?_); refine goesL_ (some 20) rfl rfl Tryd.func40 (by kernel_rfl) rfl #[.bool a1, .slice A0 l0.length c0] rfl (by (try simp only [List.map_toArray, List.map_cons, List.map_nil]); first | done | rfl | (simp only [List.length_drop, List.length_take]; rfl)) ?_; (with_reducible refine (fcs_Trailer.calls kj3 a1 _ _ l0 t103 _ ?side1 ?side2 ?side3 A12.out).mono ?_); (case side1 => repeat (first | exact (Kd.C_below HR0.out HB.out) | (with_reducible refine Kd.C_alloc ?_ _) | (with_reducible refine Kd.C_drewN ?_ _) | (with_reducible refine Kd.C_drew ?_))); (case side2 => exact HC0.out); (case side3 => repeat (first | exact (GF_below HGF.out HB.out) | (with_reducible refine GF_alloc ?_ _) | (with_reducible refine GF_drewN ?_ _) | (with_reducible refine GF_drew ?_))); rintro e w14 ⟨v104, rfl, ho0, hb⟩; refine ⟨_, rfl, ?_⟩; have n0_ := Aside0.mk (Kd.R_lower ho0 (below_size (by repeat (first | (with_reducible first | exact HB.out | apply below_alloc | apply pw_below_drewN | apply below_drew1) | exact HB.out)))); have n1_ := Aside0.mk (below_step (by repeat (first | (with_reducible first | exact HB.out | apply below_alloc | apply pw_below_drewN | apply below_drew1) | exact HB.out)) hb); clear HB; have HO105 := n0_; have HB := n1_; clear n0_ n1_; (try clear hb); (try clear hb2); (try clear hk); (try clear hi); (try clear ho0)))
        (try simp only [Act.put, List.setIfInBounds_toArray, List.set_cons_zero, List.set_cons_succ])
        go_cut [8] (fun v8 wc => ∃ (kq : Nat) (x8_12 : Int), v8 = .int .u32 x8_12 ∧ Aside0 (marlinelaw02_FcsResidue.j1 kq l0 a1 l2 t103 x8_12 = some r) ∧ Aside0 (kq ≤ kj3) ∧ Aside0 (Kd.R (Kd.int .u8) 5 wc w1.heap.size (fun _ => True) v104 t103) ∧ Aside0 (Below w1.heap.size w1 wc))
        case first =>
          have H := HC13.out
          clear HC13
          by_cases c15 : a1 = true
          · subst c15
            have H1 : (marlinelaw02_FcsResidue.j1 kj3 l0 true l2 t103 3736805603) = some r := by rw [if_pos rfl] at H; exact H
            clear H
            have H := H1
            clear H1
            have H' := Aside0.mk H
            clear H
            go_wp2
            go_meet
            case rel => exact ⟨_, (3736805603), (by first | rfl | (simp; done) | (simp [*]; done)), H', ⟨by have := HJ3.out; first | omega | exact Nat.le_refl _⟩, ⟨by (with_reducible repeat (first | apply Kd.R_alloc | apply Kd.R_drewN | apply Kd.R_drew)); exact HO105.out⟩, ⟨by repeat (first | (with_reducible first | exact HB.out | apply below_alloc | apply pw_below_drewN | apply below_drew1) | exact HB.out)⟩⟩
          · replace c15 := Bool.eq_false_iff.mpr c15
            subst c15
            have H1 : (marlinelaw02_FcsResidue.j1 kj3 l0 false l2 t103 61624) = some r := by rw [if_neg (show ¬ (false = true) by decide)] at H; exact H
            clear H
            have H := H1
            clear H1
            have H' := Aside0.mk H
            clear H
            go_wp2
            go_meet
            case rel => exact ⟨_, (61624), (by first | rfl | (simp; done) | (simp [*]; done)), H', ⟨by have := HJ3.out; first | omega | exact Nat.le_refl _⟩, ⟨by (with_reducible repeat (first | apply Kd.R_alloc | apply Kd.R_drewN | apply Kd.R_drew)); exact HO105.out⟩, ⟨by repeat (first | (with_reducible first | exact HB.out | apply below_alloc | apply pw_below_drewN | apply below_drew1) | exact HB.out)⟩⟩
        case rest =>
          clear HC13
          try clear c1
          try clear p2
          try clear c4
          try clear c6
          try clear c9
          try clear c15
          try clear p2
          obtain ⟨kq, x8_12, rfl, HA, HJ12, HO_7, HB⟩ := hcut
          cases kq with
          | zero => exact absurd HA.out (by simp [marlinelaw02_FcsResidue.j1])
          | succ kj12 =>
            have H := HA.out
            clear HA
            simp only [marlinelaw02_FcsResidue.j1] at H
            have HC16 := Aside0.mk H
            clear H
            go_upto_region 7 with (fail)
            go_cut [44] (fun v44 wc => ∃ (kq : Nat) (x44_15 : Bool), v44 = .bool x44_15 ∧ Aside0 (marlinelaw02_FcsResidue.j2 kq l0 a1 l2 t103 x8_12 x44_15 = some r) ∧ Aside0 (kq ≤ kj12) ∧ Aside0 (Kd.R (Kd.int .u8) 5 wc w1.heap.size (fun _ => True) v104 t103) ∧ Aside0 (Below w1.heap.size w1 wc))
            case first =>
              have H := HC16.out
              clear HC16
              replace H := Option.bind_eq_some_iff.mp H
              obtain ⟨t106, A170, H⟩ := H
              replace H : (if (t103.length : Int) = t106 then (if (t103.length : Int) > 4 then (marlinelaw02_FcsResidue.j2 kj12 l0 a1 l2 t103 x8_12 true) else ((fcs_Start.f a1).bind fun t107 => ((some (([] : List Int) : List Int)).bind fun y108 => (if y108.length + l0.length < 140737488355328 then ((some (y108 ++ l0 : List Int)).bind fun y111 => (if y111.length + t103.length < 140737488355328 then ((fcs_More.f a1 t107 (y111 ++ t103)).bind fun t117 => (marlinelaw02_FcsResidue.j2 kj12 l0 a1 l2 t103 x8_12 (t117 != x8_12))) else (none))) else (none))))) else (marlinelaw02_FcsResidue.j2 kj12 l0 a1 l2 t103 x8_12 true)) = some r := H
              have A17 := Aside0.mk A170
              clear A170
              by_cases c18 : (t103.length : Int) = t106
              · rw [if_pos c18] at H
                have c18b0 : ((t103.length : Int) == t106) = true := beq_iff_eq.mpr c18
                have c18b1 : ((t103.length : Int) != t106) = false := bne_eq_false_iff_eq.mpr c18
                clear c18
                (first | rw [c18b0] | (simp only [i64_w, i32_w]; rw [c18b0]) | skip)
                by_cases c19 : (t103.length : Int) > 4
                · rw [if_pos c19] at H
                  have c19b0 : decide (4 < (t103.length : Int)) = true := decide_eq_true c19
                  have c19b1 : decide (4 < t103.length) = true := decide_eq_true (by omega)
                  clear c19
                  have H' := Aside0.mk H
                  clear H
                  obtain ⟨Ao20, co20, eo20⟩ := Kd.R_slice HO_7.out
                  subst eo20
                  go_wp2_with (first | ((with_reducible refine gate_callee (f := 41) rfl ?_); refine goesL_ (some 25) rfl rfl Tryd.func41 (by kernel_rfl) rfl #[.bool a1] rfl (by (try simp only [List.map_toArray, List.map_cons, List.map_nil]); first | done | rfl | (simp only [List.length_drop, List.length_take]; rfl)) ?_; (with_reducible refine (fcs_Size.calls a1 t106 _ ?side1 A17.out).mono ?_); (case side1 => repeat (first | exact (GF_below HGF.out HB.out) | (with_reducible refine GF_alloc ?_ _) | (with_reducible refine GF_drewN ?_ _) | (with_reducible refine GF_drew ?_))); rintro e w21 ⟨rfl, hb⟩; refine ⟨_, rfl, ?_⟩; have n0_ := Aside0.mk (Kd.R_below (by (with_reducible repeat (first | apply Kd.R_alloc | apply Kd.R_drewN | apply Kd.R_drew)); exact HO_7.out) hb); have n1_ := Aside0.mk (below_step (by repeat (first | (with_reducible first | exact HB.out | apply below_alloc | apply pw_below_drewN | apply below_drew1) | exact HB.out)) hb); clear HO_7; clear HB; have HO_7 := n0_; have HB := n1_; clear n0_ n1_; (try clear hb); (try clear hb2); (try clear hk); (try clear hi)))
                  go_meet
                  case rel => exact ⟨_, (true), (by first | rfl | (simp; done) | (simp [*]; done)), H', ⟨by have := HJ3.out; have := HJ12.out; first | omega | exact Nat.le_refl _⟩, ⟨by (with_reducible repeat (first | apply Kd.R_alloc | apply Kd.R_drewN | apply Kd.R_drew)); exact HO_7.out⟩, ⟨by repeat (first | (with_reducible first | exact HB.out | apply below_alloc | apply pw_below_drewN | apply below_drew1) | exact HB.out)⟩⟩
                · rw [if_neg c19] at H
                  have c19b0 : decide (4 < (t103.length : Int)) = false := decide_eq_false c19
                  have c19b1 : decide (4 < t103.length) = false := decide_eq_false (by omega)
                  clear c19
                  replace H := Option.bind_eq_some_iff.mp H
                  obtain ⟨t107, A220, H⟩ := H
                  replace H : ((some (([] : List Int) : List Int)).bind fun y108 => (if y108.length + l0.length < 140737488355328 then ((some (y108 ++ l0 : List Int)).bind fun y111 => (if y111.length + t103.length < 140737488355328 then ((fcs_More.f a1 t107 (y111 ++ t103)).bind fun t117 => (marlinelaw02_FcsResidue.j2 kj12 l0 a1 l2 t103 x8_12 (t117 != x8_12))) else (none))) else (none))) = some r := H
                  have A22 := Aside0.mk A220
                  clear A220
                  obtain ⟨y108, hy108⟩ : ∃ y_ : List Int, y_ = (([] : List Int)) := ⟨_, rfl⟩
                  replace H : (if y108.length + l0.length < 140737488355328 then ((some (y108 ++ l0 : List Int)).bind fun y111 => (if y111.length + t103.length < 140737488355328 then ((fcs_More.f a1 t107 (y111 ++ t103)).bind fun t117 => (marlinelaw02_FcsResidue.j2 kj12 l0 a1 l2 t103 x8_12 (t117 != x8_12))) else (none))) else (none)) = some r := by first | (rw [hy108]; with_reducible exact H) | (have H2_ := (Option.bind_some _ _).symm.trans H; rw [hy108]; with_reducible exact H2_) | (have H2_ := (Option.bind_some _ _).symm.trans H; with_reducible exact H2_) | with_reducible exact H | (rw [hy108]; exact H) | exact H
                  have Ny108 := Aside0.mk hy108
                  clear hy108
                  by_cases c23 : y108.length + l0.length < 140737488355328
                  · rw [if_pos c23] at H
                    have LMc23 := Aside0.mk c23
                    clear c23
                    obtain ⟨y111, hy111⟩ : ∃ y_ : List Int, y_ = (y108 ++ l0) := ⟨_, rfl⟩
                    replace H : (if y111.length + t103.length < 140737488355328 then ((fcs_More.f a1 t107 (y111 ++ t103)).bind fun t117 => (marlinelaw02_FcsResidue.j2 kj12 l0 a1 l2 t103 x8_12 (t117 != x8_12))) else (none)) = some r := by first | (rw [hy111]; with_reducible exact H) | (have H2_ := (Option.bind_some _ _).symm.trans H; rw [hy111]; with_reducible exact H2_) | (have H2_ := (Option.bind_some _ _).symm.trans H; with_reducible exact H2_) | with_reducible exact H | (rw [hy111]; exact H) | exact H
                    have Ny111 := Aside0.mk hy111
                    clear hy111
                    by_cases c24 : y111.length + t103.length < 140737488355328
                    · rw [if_pos c24] at H
                      have LMc24 := Aside0.mk c24
                      clear c24
                      obtain ⟨y114, hy114⟩ : ∃ y_ : List Int, y_ = (y111 ++ t103) := ⟨_, rfl⟩
                      replace H : ((fcs_More.f a1 t107 y114).bind fun t117 => (marlinelaw02_FcsResidue.j2 kj12 l0 a1 l2 t103 x8_12 (t117 != x8_12))) = some r := by first | (rw [hy114]; with_reducible exact H) | (have H2_ := (Option.bind_some _ _).symm.trans H; rw [hy114]; with_reducible exact H2_) | (have H2_ := (Option.bind_some _ _).symm.trans H; with_reducible exact H2_) | with_reducible exact H | (rw [hy114]; exact H) | exact H
                      have Ny114 := Aside0.mk hy114
                      clear hy114
                      replace H := Option.bind_eq_some_iff.mp H
                      obtain ⟨t117, A250, H⟩ := H
                      replace H : (marlinelaw02_FcsResidue.j2 kj12 l0 a1 l2 t103 x8_12 (t117 != x8_12)) = some r := H
                      have A25 := Aside0.mk A250
                      clear A250
                      have H' := Aside0.mk H
                      clear H
                      obtain ⟨Ao26, co26, eo26⟩ := Kd.R_slice HO_7.out
                      subst eo26
                      go_wp2_with (first | ((with_reducible refine gate_callee (f := 41) rfl ?_); refine goesL_ (some 25) rfl rfl Tryd.func41 (by kernel_rfl) rfl #[.bool a1] rfl (by (try simp only [List.map_toArray, List.map_cons, List.map_nil]); first | done | rfl | (simp only [List.length_drop, List.length_take]; rfl)) ?_; (with_reducible refine (fcs_Size.calls a1 t106 _ ?side1 A17.out).mono ?_); (case side1 => repeat (first | exact (GF_below HGF.out HB.out) | (with_reducible refine GF_alloc ?_ _) | (with_reducible refine GF_drewN ?_ _) | (with_reducible refine GF_drew ?_))); rintro e w27 ⟨rfl, hb⟩; refine ⟨_, rfl, ?_⟩; have n0_ := Aside0.mk (Kd.R_below (by (with_reducible repeat (first | apply Kd.R_alloc | apply Kd.R_drewN | apply Kd.R_drew)); exact HO_7.out) hb); have n1_ := Aside0.mk (below_step (by repeat (first | (with_reducible first | exact HB.out | apply below_alloc | apply pw_below_drewN | apply below_drew1) | exact HB.out)) hb); clear HO_7; clear HB; have HO_7 := n0_; have HB := n1_; clear n0_ n1_; (try clear hb); (try clear hb2); (try clear hk); (try clear hi)) | (go_at_call 39; (with_reducible refine (fcs_Start.calls a1 t107 _ ?side1 A22.out).mono ?_); (case side1 => repeat (first | exact (GF_below HGF.out HB.out) | (with_reducible refine GF_alloc ?_ _) | (with_reducible refine GF_drewN ?_ _) | (with_reducible refine GF_drew ?_))); rintro e w28 ⟨rfl, hb⟩; have n0_ := Aside0.mk (Kd.R_below (by (with_reducible repeat (first | apply Kd.R_alloc | apply Kd.R_drewN | apply Kd.R_drew)); exact HO_7.out) hb); have n1_ := Aside0.mk (below_step (by repeat (first | (with_reducible first | exact HB.out | apply below_alloc | apply pw_below_drewN | apply below_drew1) | exact HB.out)) hb); clear HO_7; clear HB; have HO_7 := n0_; have HB := n1_; clear n0_ n1_; (try clear hb); (try clear hb2); (try clear hk); (try clear hi)) | ((with_reducible refine gate_dst (N := 36) rfl ?_); (try (refine gate_guard (by rfl) ?_; dsimp only)); refine Kd.R_lit (Kd.int .u8) _ 5 ?hg (N := 36) ?hd (xs := ([] : List Int)) (inner := []) (ok := fun _ => True) (okp := fun _ => True) ?hr ?hp (fun _ hk => hk) trivial (Below.refl _ _) (Nat.le_refl _) (by simp) ?_; (case hd => rfl); (case hg => rfl); (case hr => first | (go_simp; done) | (go_simp; rfl)); (case hp => exact (Reps.none _ _)); intro v109 w29 ho30 hb hg_ hnew_; clear hg_ hnew_; (first | rw [← Ny108.out] at ho30 | (simp only [Int.reduceToNat] at ho30; rw [← Ny108.out] at ho30)); have n0_ := Aside0.mk (Kd.R_elder' (by (with_reducible repeat (first | apply Kd.R_alloc | apply Kd.R_drewN | apply Kd.R_drew)); exact HO_7.out) (Kd.R_base ho30) hb); have n1_ := Aside0.mk (Kd.R_lower (Kd.R_new' ho30 (Kd.R_lt (by (with_reducible repeat (first | apply Kd.R_alloc | apply Kd.R_drewN | apply Kd.R_drew)); exact HO_7.out))) (below_size (by repeat (first | (with_reducible first | exact HB.out | apply below_alloc | apply pw_below_drewN | apply below_drew1) | exact HB.out)))); have n2_ := Aside0.mk (below_step (by repeat (first | (with_reducible first | exact HB.out | apply below_alloc | apply pw_below_drewN | apply below_drew1) | exact HB.out)) hb); clear HO_7; clear HB; have HO_7 := n0_; have HO110 := n1_; have HB := n2_; clear n0_ n1_ n2_; clear hb ho30) | ((with_reducible refine gate_builtin (b := .append) (xs := #[.tmp 36, .tmp 37]) rfl ?_); (try (refine gate_guard (by rfl) ?_; dsimp only)); at_builtin; refine Kd.R_append_rows (Kd.int .u8) (w0 := w1) w1.heap.size rfl (.tmp 36) (.tmp 37) 35 5 (.int .u8 0) 1 rfl Tryd.underlying35 info5 rfl (by decide) (by omega) v109 y108 l0 _ _ _ (fun k_ => some k_ ≠ (.slice Ao26 t103.length co26 : Value).ownBlock) (fun _ => False) rfl rfl ?aO ?aR (fun _ _ h => h) (fun _ h => h.elim) ?aF ?aB ?aS ?aL ?_; (case aR => repeat (first | exact (Kd.C_below HR0.out HB.out) | (with_reducible refine Kd.C_alloc ?_ _) | (with_reducible refine Kd.C_drewN ?_ _) | (with_reducible refine Kd.C_drew ?_))); (case aB => exact (by repeat (first | (with_reducible first | exact HB.out | apply below_alloc | apply pw_below_drewN | apply below_drew1) | exact HB.out))); (case aF => exact (fun k_ hk => Kd.fresh' (Kd.R_lt (by (with_reducible repeat (first | apply Kd.R_alloc | apply Kd.R_drewN | apply Kd.R_drew)); exact HO_7.out)) k_ hk)); (case aO => exact (by (with_reducible repeat (first | apply Kd.R_alloc | apply Kd.R_drewN | apply Kd.R_drew)); exact Kd.R_mono HO110.out (fun _ hk => hk.2))); (case aS => exact (below_size (by repeat (first | (with_reducible first | exact HB.out | apply below_alloc | apply pw_below_drewN | apply below_drew1) | exact HB.out)))); (case aL => have := LMc23.out; omega); intro v112 w31 ho hb hg hat; rw [← Ny111.out] at ho; have n0_ := Aside0.mk (Kd.R_after (ok := (fun _ => True)) (by (with_reducible repeat (first | apply Kd.R_alloc | apply Kd.R_drewN | apply Kd.R_drew)); exact HO_7.out) hg hat); have n1_ := Aside0.mk (hb); have n2_ := Aside0.mk (ho); clear HO_7; clear HB; clear HO110; have HO_7 := n0_; have HB := n1_; have HO113 := n2_; clear n0_ n1_ n2_; clear ho hb hg hat) | ((with_reducible refine gate_builtin (b := .append) (xs := #[.tmp 38, .tmp 39]) rfl ?_); (try (refine gate_guard (by rfl) ?_; dsimp only)); at_builtin; refine Kd.R_append_rows (Kd.int .u8) (w0 := w1) w1.heap.size rfl (.tmp 38) (.tmp 39) 35 5 (.int .u8 0) 1 rfl Tryd.underlying35 info5 rfl (by decide) (by omega) v112 y111 t103 _ _ _ (fun k_ => some k_ ≠ (.slice Ao26 t103.length co26 : Value).ownBlock) (fun _ => False) rfl rfl ?aO ?aR (fun _ _ h => h) (fun _ h => h.elim) ?aF ?aB ?aS ?aL ?_; (case aR => repeat (first | exact (Kd.R_reads' HO_7.out).2.2 | (with_reducible refine Kd.C_alloc ?_ _) | (with_reducible refine Kd.C_drewN ?_ _) | (with_reducible refine Kd.C_drew ?_))); (case aB => exact (by repeat (first | (with_reducible first | exact HB.out | apply below_alloc | apply pw_below_drewN | apply below_drew1) | exact HB.out))); (case aF => exact (fun k_ hk => Kd.fresh' (Kd.R_lt (by (with_reducible repeat (first | apply Kd.R_alloc | apply Kd.R_drewN | apply Kd.R_drew)); exact HO_7.out)) k_ hk)); (case aO => exact (by (with_reducible repeat (first | apply Kd.R_alloc | apply Kd.R_drewN | apply Kd.R_drew)); exact HO113.out)); (case aS => exact (below_size (by repeat (first | (with_reducible first | exact HB.out | apply below_alloc | apply pw_below_drewN | apply below_drew1) | exact HB.out)))); (case aL => have := LMc24.out; omega); intro v115 w32 ho hb hg hat; rw [← Ny114.out] at ho; have n0_ := Aside0.mk (Kd.R_after (ok := (fun _ => True)) (by (with_reducible repeat (first | apply Kd.R_alloc | apply Kd.R_drewN | apply Kd.R_drew)); exact HO_7.out) hg hat); have n1_ := Aside0.mk (hb); have n2_ := Aside0.mk (ho); clear HO_7; clear HB; clear HO113; have HO_7 := n0_; have HB := n1_; have HO116 := n2_; clear n0_ n1_ n2_; clear ho hb hg hat; obtain ⟨Ao33, co33, eo33⟩ := Kd.R_slice HO116.out; subst eo33) | (go_at_call 37; (with_reducible refine (fcs_More.calls a1 t107 _ _ y114 t117 _ ?side1 ?side2 ?side3 A25.out).mono ?_); (case side1 => repeat (first | exact (Kd.R_reads' HO116.out).2.2 | (with_reducible refine Kd.C_alloc ?_ _) | (with_reducible refine Kd.C_drewN ?_ _) | (with_reducible refine Kd.C_drew ?_))); (case side2 => exact (Kd.R_reads' HO116.out).2.1); (case side3 => repeat (first | exact (GF_below HGF.out HB.out) | (with_reducible refine GF_alloc ?_ _) | (with_reducible refine GF_drewN ?_ _) | (with_reducible refine GF_drew ?_))); rintro e w34 ⟨rfl, hb⟩; have n0_ := Aside0.mk (Kd.R_below (by (with_reducible repeat (first | apply Kd.R_alloc | apply Kd.R_drewN | apply Kd.R_drew)); exact HO_7.out) hb); have n1_ := Aside0.mk (Kd.R_below (by (with_reducible repeat (first | apply Kd.R_alloc | apply Kd.R_drewN | apply Kd.R_drew)); exact HO116.out) hb); have n2_ := Aside0.mk (below_step (by repeat (first | (with_reducible first | exact HB.out | apply below_alloc | apply pw_below_drewN | apply below_drew1) | exact HB.out)) hb); clear HO_7; clear HO116; clear HB; have HO_7 := n0_; have HO116 := n1_; have HB := n2_; clear n0_ n1_ n2_; (try clear hb); (try clear hb2); (try clear hk); (try clear hi)))
                      go_meet
                      case rel => exact ⟨_, ((t117 != x8_12)), (by first | rfl | (simp; done) | (simp [*]; done)), H', ⟨by have := HJ3.out; have := HJ12.out; first | omega | exact Nat.le_refl _⟩, ⟨by (with_reducible repeat (first | apply Kd.R_alloc | apply Kd.R_drewN | apply Kd.R_drew)); exact Kd.R_mono HO_7.out (fun _ hk => trivial)⟩, ⟨by repeat (first | (with_reducible first | exact HB.out | apply below_alloc | apply pw_below_drewN | apply below_drew1) | exact HB.out)⟩⟩
                    · rw [if_neg c24] at H
                      exact absurd H (by simp)
                  · rw [if_neg c23] at H
                    exact absurd H (by simp)
              · rw [if_neg c18] at H
                have c18b0 : ((t103.length : Int) == t106) = false := beq_eq_false_iff_ne.mpr c18
                have c18b1 : ((t103.length : Int) != t106) = true := bne_iff_ne.mpr c18
                (first | rw [c18b0] | (simp only [i64_w, i32_w]; rw [c18b0]) | skip)
                have H' := Aside0.mk H
                clear H
                obtain ⟨Ao35, co35, eo35⟩ := Kd.R_slice HO_7.out
                subst eo35
                go_wp2_with (first | ((with_reducible refine gate_callee (f := 41) rfl ?_); refine goesL_ (some 25) rfl rfl Tryd.func41 (by kernel_rfl) rfl #[.bool a1] rfl (by (try simp only [List.map_toArray, List.map_cons, List.map_nil]); first | done | rfl | (simp only [List.length_drop, List.length_take]; rfl)) ?_; (with_reducible refine (fcs_Size.calls a1 t106 _ ?side1 A17.out).mono ?_); (case side1 => repeat (first | exact (GF_below HGF.out HB.out) | (with_reducible refine GF_alloc ?_ _) | (with_reducible refine GF_drewN ?_ _) | (with_reducible refine GF_drew ?_))); rintro e w36 ⟨rfl, hb⟩; refine ⟨_, rfl, ?_⟩; have n0_ := Aside0.mk (Kd.R_below (by (with_reducible repeat (first | apply Kd.R_alloc | apply Kd.R_drewN | apply Kd.R_drew)); exact HO_7.out) hb); have n1_ := Aside0.mk (below_step (by repeat (first | (with_reducible first | exact HB.out | apply below_alloc | apply pw_below_drewN | apply below_drew1) | exact HB.out)) hb); clear HO_7; clear HB; have HO_7 := n0_; have HB := n1_; clear n0_ n1_; (try clear hb); (try clear hb2); (try clear hk); (try clear hi)))
                go_meet
                case rel => exact ⟨_, (true), (by first | rfl | (simp; done) | (simp [*]; done)), H', ⟨by have := HJ3.out; have := HJ12.out; first | omega | exact Nat.le_refl _⟩, ⟨by (with_reducible repeat (first | apply Kd.R_alloc | apply Kd.R_drewN | apply Kd.R_drew)); exact HO_7.out⟩, ⟨by repeat (first | (with_reducible first | exact HB.out | apply below_alloc | apply pw_below_drewN | apply below_drew1) | exact HB.out)⟩⟩
            case rest =>
              clear HC16
              try clear c1
              try clear p2
              try clear c4
              try clear c6
              try clear c9
              try clear c15
              try clear c18
              try clear c18b0
              try clear c18b1
              try clear c19
              try clear c19b0
              try clear c19b1
              try clear c23
              try clear c24
              try clear c26
              try clear p2
              obtain ⟨kq, x44_15, rfl, HA, HJ15, HO_7, HB⟩ := hcut
              cases kq with
              | zero => exact absurd HA.out (by simp [marlinelaw02_FcsResidue.j2])
              | succ kj15 =>
                have H := HA.out
                clear HA
                simp only [marlinelaw02_FcsResidue.j2] at H
                by_cases c37 : x44_15 = true
                · subst c37
                  have H1 : (some false) = some r := by rw [if_pos rfl] at H; exact H
                  clear H
                  have H := H1
                  clear H1
                  obtain rfl := Option.some.inj H
                  go_wp2
                  go_ret
                  exact ⟨by first | rfl | (simp [errW_none, errW_some] <;> rfl) | (simp [*, errW_none, errW_some] <;> rfl), below_then HBW.out HBW.out.size (by repeat (first | (with_reducible first | exact HB.out | apply below_alloc | apply pw_below_drewN | apply below_drew1) | exact HB.out))⟩
                · replace c37 := Bool.eq_false_iff.mpr c37
                  subst c37
                  obtain ⟨m2, hm2⟩ : ∃ m : List Int, m = (l2.take ((t103.length : Int) : Int).toNat) := ⟨_, rfl⟩
                  rw [← hm2] at H
                  have HM2 := Aside0.mk hm2
                  clear hm2
                  have H1 : (if 0 ≤ (t103.length : Int) then (if (t103.length : Int) ≤ (l2.length : Int) then ((marlineref01_Equal.f kj15 m2 t103).bind fun t119 => (if t119 = true then (some true) else ((fcs_Start.f a1).bind fun t120 => ((some (([] : List Int) : List Int)).bind fun y121 => (if y121.length + l0.length < 140737488355328 then ((some (y121 ++ l0 : List Int)).bind fun y124 => (if y124.length + m2.length < 140737488355328 then ((fcs_More.f a1 t120 (y124 ++ m2)).bind fun t130 => (some (t130 != x8_12))) else (none))) else (none)))))) else (none)) else (none)) = some r := by rw [if_neg (show ¬ (false = true) by decide)] at H; exact H
                  clear H
                  have H := H1
                  clear H1
                  by_cases c38 : 0 ≤ (t103.length : Int)
                  · rw [if_pos c38] at H
                    have c38b0 := eq_true c38
                    have c38b1 : decide (0 ≤ (t103.length : Int)) = true := decide_eq_true c38
                    clear c38
                    by_cases c39 : (t103.length : Int) ≤ (l2.length : Int)
                    · rw [if_pos c39] at H
                      have c39b0 := eq_true c39
                      have c39b1 : decide ((t103.length : Int) ≤ (l2.length : Int)) = true := decide_eq_true c39
                      clear c39
                      replace H := Option.bind_eq_some_iff.mp H
                      obtain ⟨t119, A400, H⟩ := H
                      replace H : (if t119 = true then (some true) else ((fcs_Start.f a1).bind fun t120 => ((some (([] : List Int) : List Int)).bind fun y121 => (if y121.length + l0.length < 140737488355328 then ((some (y121 ++ l0 : List Int)).bind fun y124 => (if y124.length + m2.length < 140737488355328 then ((fcs_More.f a1 t120 (y124 ++ m2)).bind fun t130 => (some (t130 != x8_12))) else (none))) else (none))))) = some r := H
                      have A40 := Aside0.mk A400
                      clear A400
                      by_cases c41 : t119 = true
                      · subst c41
                        have H1 : (some true) = some r := by rw [if_pos rfl] at H; exact H
                        clear H
                        have H := H1
                        clear H1
                        obtain rfl := Option.some.inj H
                        obtain ⟨Ao42, co42, eo42⟩ := Kd.R_slice HO_7.out
                        subst eo42
                        obtain ⟨i043, hi043, _, hsz43, _⟩ := info_parts info5
                        obtain ⟨hcut43, hA43, hC43⟩ := cut_of a2 l2 HL4.out m2 (t103.length : Int) (of_decide_eq_true (by first | (with_reducible assumption) | assumption)) (of_decide_eq_true (by first | (with_reducible assumption) | assumption)) HM2.out
                        have HML := Aside0.mk (show m2.length = (t103.length : Int).toNat by rw [HM2.out, List.length_take]; have h_ : ((t103.length : Int) : Int) ≤ (l2.length : Int) := of_decide_eq_true (by first | (with_reducible assumption) | assumption); omega)
                        have HR118 := Aside0.mk (Kd.C_of_reads (h1 := fun _ => rfl) (hA43 _ (Kd.reads_of_C HR2.out)))
                        have HC118 := Aside0.mk hC43
                        clear hA43 hC43 hi043 hsz43
                        go_wp2_with (first | ((with_reducible refine gate_callee (f := 31) rfl ?_); refine goesL_ (some 50) rfl rfl Tryd.func31 (by kernel_rfl) rfl #[.slice (some a2) m2.length 4, .slice Ao42 t103.length co42] rfl (by (try simp only [List.map_toArray, List.map_cons, List.map_nil]); first | done | (rw [show m2.length = (t103.length : Int).toNat from HML.out] <;> rfl) | rfl | (simp only [List.length_drop, List.length_take]; rfl)) ?_; (with_reducible refine (marlineref01_Equal.calls kj15 _ _ m2 _ _ t103 true _ ?side1 ?side2 ?side3 ?side4 A40.out).mono ?_); (case side1 => repeat (first | exact (Kd.C_below HR118.out HB.out) | (with_reducible refine Kd.C_alloc ?_ _) | (with_reducible refine Kd.C_drewN ?_ _) | (with_reducible refine Kd.C_drew ?_))); (case side2 => exact HC118.out); (case side3 => repeat (first | exact (Kd.R_reads' HO_7.out).2.2 | (with_reducible refine Kd.C_alloc ?_ _) | (with_reducible refine Kd.C_drewN ?_ _) | (with_reducible refine Kd.C_drew ?_))); (case side4 => exact (Kd.R_reads' HO_7.out).2.1); rintro e w' ⟨rfl, ⟨nd, rfl⟩⟩; refine ⟨_, rfl, ?_⟩))
                        go_ret
                        exact ⟨by first | rfl | (simp [errW_none, errW_some] <;> rfl) | (simp [*, errW_none, errW_some] <;> rfl), below_then HBW.out HBW.out.size (by repeat (first | (with_reducible first | exact HB.out | apply below_alloc | apply pw_below_drewN | apply below_drew1) | exact HB.out))⟩
                      · replace c41 := Bool.eq_false_iff.mpr c41
                        subst c41
                        have H1 : ((fcs_Start.f a1).bind fun t120 => ((some (([] : List Int) : List Int)).bind fun y121 => (if y121.length + l0.length < 140737488355328 then ((some (y121 ++ l0 : List Int)).bind fun y124 => (if y124.length + m2.length < 140737488355328 then ((fcs_More.f a1 t120 (y124 ++ m2)).bind fun t130 => (some (t130 != x8_12))) else (none))) else (none)))) = some r := by rw [if_neg (show ¬ (false = true) by decide)] at H; exact H
                        clear H
                        have H := H1
                        clear H1
                        replace H := Option.bind_eq_some_iff.mp H
                        obtain ⟨t120, A440, H⟩ := H
                        replace H : ((some (([] : List Int) : List Int)).bind fun y121 => (if y121.length + l0.length < 140737488355328 then ((some (y121 ++ l0 : List Int)).bind fun y124 => (if y124.length + m2.length < 140737488355328 then ((fcs_More.f a1 t120 (y124 ++ m2)).bind fun t130 => (some (t130 != x8_12))) else (none))) else (none))) = some r := H
                        have A44 := Aside0.mk A440
                        clear A440
                        obtain ⟨y121, hy121⟩ : ∃ y_ : List Int, y_ = (([] : List Int)) := ⟨_, rfl⟩
                        replace H : (if y121.length + l0.length < 140737488355328 then ((some (y121 ++ l0 : List Int)).bind fun y124 => (if y124.length + m2.length < 140737488355328 then ((fcs_More.f a1 t120 (y124 ++ m2)).bind fun t130 => (some (t130 != x8_12))) else (none))) else (none)) = some r := by first | (rw [hy121]; with_reducible exact H) | (have H2_ := (Option.bind_some _ _).symm.trans H; rw [hy121]; with_reducible exact H2_) | (have H2_ := (Option.bind_some _ _).symm.trans H; with_reducible exact H2_) | with_reducible exact H | (rw [hy121]; exact H) | exact H
                        have Ny121 := Aside0.mk hy121
                        clear hy121
                        by_cases c45 : y121.length + l0.length < 140737488355328
                        · rw [if_pos c45] at H
                          have LMc45 := Aside0.mk c45
                          clear c45
                          obtain ⟨y124, hy124⟩ : ∃ y_ : List Int, y_ = (y121 ++ l0) := ⟨_, rfl⟩
                          replace H : (if y124.length + m2.length < 140737488355328 then ((fcs_More.f a1 t120 (y124 ++ m2)).bind fun t130 => (some (t130 != x8_12))) else (none)) = some r := by first | (rw [hy124]; with_reducible exact H) | (have H2_ := (Option.bind_some _ _).symm.trans H; rw [hy124]; with_reducible exact H2_) | (have H2_ := (Option.bind_some _ _).symm.trans H; with_reducible exact H2_) | with_reducible exact H | (rw [hy124]; exact H) | exact H
                          have Ny124 := Aside0.mk hy124
                          clear hy124
                          by_cases c46 : y124.length + m2.length < 140737488355328
                          · rw [if_pos c46] at H
                            have LMc46 := Aside0.mk c46
                            clear c46
                            obtain ⟨y127, hy127⟩ : ∃ y_ : List Int, y_ = (y124 ++ m2) := ⟨_, rfl⟩
                            replace H : ((fcs_More.f a1 t120 y127).bind fun t130 => (some (t130 != x8_12))) = some r := by first | (rw [hy127]; with_reducible exact H) | (have H2_ := (Option.bind_some _ _).symm.trans H; rw [hy127]; with_reducible exact H2_) | (have H2_ := (Option.bind_some _ _).symm.trans H; with_reducible exact H2_) | with_reducible exact H | (rw [hy127]; exact H) | exact H
                            have Ny127 := Aside0.mk hy127
                            clear hy127
                            replace H := Option.bind_eq_some_iff.mp H
                            obtain ⟨t130, A470, H⟩ := H
                            replace H : (some (t130 != x8_12)) = some r := H
                            have A47 := Aside0.mk A470
                            clear A470
                            obtain rfl := Option.some.inj H
                            obtain ⟨Ao48, co48, eo48⟩ := Kd.R_slice HO_7.out
                            subst eo48
                            obtain ⟨i049, hi049, _, hsz49, _⟩ := info_parts info5
                            obtain ⟨hcut49, hA49, hC49⟩ := cut_of a2 l2 HL4.out m2 (t103.length : Int) (of_decide_eq_true (by first | (with_reducible assumption) | assumption)) (of_decide_eq_true (by first | (with_reducible assumption) | assumption)) HM2.out
                            have HML := Aside0.mk (show m2.length = (t103.length : Int).toNat by rw [HM2.out, List.length_take]; have h_ : ((t103.length : Int) : Int) ≤ (l2.length : Int) := of_decide_eq_true (by first | (with_reducible assumption) | assumption); omega)
                            have HR118 := Aside0.mk (Kd.C_of_reads (h1 := fun _ => rfl) (hA49 _ (Kd.reads_of_C HR2.out)))
                            have HC118 := Aside0.mk hC49
                            clear hA49 hC49 hi049 hsz49
                            go_wp2_with (first | ((with_reducible refine gate_callee (f := 31) rfl ?_); refine goesL_ (some 50) rfl rfl Tryd.func31 (by kernel_rfl) rfl #[.slice (some a2) m2.length 4, .slice Ao48 t103.length co48] rfl (by (try simp only [List.map_toArray, List.map_cons, List.map_nil]); first | done | (rw [show m2.length = (t103.length : Int).toNat from HML.out] <;> rfl) | rfl | (simp only [List.length_drop, List.length_take]; rfl)) ?_; (with_reducible refine (marlineref01_Equal.calls kj15 _ _ m2 _ _ t103 false _ ?side1 ?side2 ?side3 ?side4 A40.out).mono ?_); (case side1 => repeat (first | exact (Kd.C_below HR118.out HB.out) | (with_reducible refine Kd.C_alloc ?_ _) | (with_reducible refine Kd.C_drewN ?_ _) | (with_reducible refine Kd.C_drew ?_))); (case side2 => exact HC118.out); (case side3 => repeat (first | exact (Kd.R_reads' HO_7.out).2.2 | (with_reducible refine Kd.C_alloc ?_ _) | (with_reducible refine Kd.C_drewN ?_ _) | (with_reducible refine Kd.C_drew ?_))); (case side4 => exact (Kd.R_reads' HO_7.out).2.1); rintro e w' ⟨rfl, ⟨nd, rfl⟩⟩; refine ⟨_, rfl, ?_⟩) | (go_at_call 39; (with_reducible refine (fcs_Start.calls a1 t120 _ ?side1 A44.out).mono ?_); (case side1 => repeat (first | exact (GF_below HGF.out (by repeat (first | (with_reducible first | exact HB.out | apply below_alloc | apply pw_below_drewN | apply below_drew1) | exact HB.out))) | (with_reducible refine GF_alloc ?_ _) | (with_reducible refine GF_drewN ?_ _) | (with_reducible refine GF_drew ?_))); rintro e w50 ⟨rfl, hb⟩; have n0_ := Aside0.mk (Kd.R_below (by (with_reducible repeat (first | apply Kd.R_alloc | apply Kd.R_drewN | apply Kd.R_drew)); exact HO_7.out) hb); have n1_ := Aside0.mk (below_step (by repeat (first | (with_reducible first | exact HB.out | apply below_alloc | apply pw_below_drewN | apply below_drew1) | exact HB.out)) hb); clear HO_7; clear HB; have HO_7 := n0_; have HB := n1_; clear n0_ n1_; (try clear hb); (try clear hb2); (try clear hk); (try clear hi)) | ((with_reducible refine gate_dst (N := 55) rfl ?_); (try (refine gate_guard (by rfl) ?_; dsimp only)); refine Kd.R_lit (Kd.int .u8) _ 5 ?hg (N := 55) ?hd (xs := ([] : List Int)) (inner := []) (ok := fun _ => True) (okp := fun _ => True) ?hr ?hp (fun _ hk => hk) trivial (Below.refl _ _) (Nat.le_refl _) (by simp) ?_; (case hd => rfl); (case hg => rfl); (case hr => first | (go_simp; done) | (go_simp; rfl)); (case hp => exact (Reps.none _ _)); intro v122 w51 ho52 hb hg_ hnew_; clear hg_ hnew_; (first | rw [← Ny121.out] at ho52 | (simp only [Int.reduceToNat] at ho52; rw [← Ny121.out] at ho52)); have n0_ := Aside0.mk (Kd.R_elder' (by (with_reducible repeat (first | apply Kd.R_alloc | apply Kd.R_drewN | apply Kd.R_drew)); exact HO_7.out) (Kd.R_base ho52) hb); have n1_ := Aside0.mk (Kd.R_lower (Kd.R_new' ho52 (Kd.R_lt (by (with_reducible repeat (first | apply Kd.R_alloc | apply Kd.R_drewN | apply Kd.R_drew)); exact HO_7.out))) (below_size (by repeat (first | (with_reducible first | exact HB.out | apply below_alloc | apply pw_below_drewN | apply below_drew1) | exact HB.out)))); have n2_ := Aside0.mk (below_step (by repeat (first | (with_reducible first | exact HB.out | apply below_alloc | apply pw_below_drewN | apply below_drew1) | exact HB.out)) hb); clear HO_7; clear HB; have HO_7 := n0_; have HO123 := n1_; have HB := n2_; clear n0_ n1_ n2_; clear hb ho52) | ((with_reducible refine gate_builtin (b := .append) (xs := #[.tmp 55, .tmp 56]) rfl ?_); (try (refine gate_guard (by rfl) ?_; dsimp only)); at_builtin; refine Kd.R_append_rows (Kd.int .u8) (w0 := w1) w1.heap.size rfl (.tmp 55) (.tmp 56) 35 5 (.int .u8 0) 1 rfl Tryd.underlying35 info5 rfl (by decide) (by omega) v122 y121 l0 _ _ _ (fun k_ => some k_ ≠ (.slice Ao48 t103.length co48 : Value).ownBlock) (fun _ => False) rfl rfl ?aO ?aR (fun _ _ h => h) (fun _ h => h.elim) ?aF ?aB ?aS ?aL ?_; (case aR => repeat (first | exact (Kd.C_below HR0.out HB.out) | (with_reducible refine Kd.C_alloc ?_ _) | (with_reducible refine Kd.C_drewN ?_ _) | (with_reducible refine Kd.C_drew ?_))); (case aB => exact (by repeat (first | (with_reducible first | exact HB.out | apply below_alloc | apply pw_below_drewN | apply below_drew1) | exact HB.out))); (case aF => exact (fun k_ hk => Kd.fresh' (Kd.R_lt (by (with_reducible repeat (first | apply Kd.R_alloc | apply Kd.R_drewN | apply Kd.R_drew)); exact HO_7.out)) k_ hk)); (case aO => exact (by (with_reducible repeat (first | apply Kd.R_alloc | apply Kd.R_drewN | apply Kd.R_drew)); exact Kd.R_mono HO123.out (fun _ hk => hk.2))); (case aS => exact (below_size (by repeat (first | (with_reducible first | exact HB.out | apply below_alloc | apply pw_below_drewN | apply below_drew1) | exact HB.out)))); (case aL => have := LMc45.out; omega); intro v125 w53 ho hb hg hat; rw [← Ny124.out] at ho; have n0_ := Aside0.mk (Kd.R_after (ok := (fun _ => True)) (by (with_reducible repeat (first | apply Kd.R_alloc | apply Kd.R_drewN | apply Kd.R_drew)); exact HO_7.out) hg hat); have n1_ := Aside0.mk (hb); have n2_ := Aside0.mk (ho); clear HO_7; clear HB; clear HO123; have HO_7 := n0_; have HB := n1_; have HO126 := n2_; clear n0_ n1_ n2_; clear ho hb hg hat) | ((with_reducible refine gate_builtin (b := .append) (xs := #[.tmp 57, .tmp 58]) rfl ?_); (try (refine gate_guard (by rfl) ?_; dsimp only)); at_builtin; refine Kd.R_append_rows (Kd.int .u8) (w0 := w1) w1.heap.size rfl (.tmp 57) (.tmp 58) 35 5 (.int .u8 0) 1 rfl Tryd.underlying35 info5 rfl (by decide) (by omega) v125 y124 m2 _ _ _ (fun k_ => some k_ ≠ (.slice Ao48 t103.length co48 : Value).ownBlock) (fun _ => False) rfl rfl ?aO ?aR (fun _ _ h => h) (fun _ h => h.elim) ?aF ?aB ?aS ?aL ?_; (case aR => first | (rw [← show m2.length = (t103.length : Int).toNat from HML.out]; repeat (first | exact (Kd.C_below HR118.out HB.out) | (with_reducible refine Kd.C_alloc ?_ _) | (with_reducible refine Kd.C_drewN ?_ _) | (with_reducible refine Kd.C_drew ?_))) | (repeat (first | exact (Kd.C_below HR118.out HB.out) | (with_reducible refine Kd.C_alloc ?_ _) | (with_reducible refine Kd.C_drewN ?_ _) | (with_reducible refine Kd.C_drew ?_)))); (case aB => exact (by repeat (first | (with_reducible first | exact HB.out | apply below_alloc | apply pw_below_drewN | apply below_drew1) | exact HB.out))); (case aF => exact (fun k_ hk => Kd.fresh' (Kd.R_lt (by (with_reducible repeat (first | apply Kd.R_alloc | apply Kd.R_drewN | apply Kd.R_drew)); exact HO_7.out)) k_ hk)); (case aO => exact (by (with_reducible repeat (first | apply Kd.R_alloc | apply Kd.R_drewN | apply Kd.R_drew)); exact HO126.out)); (case aS => exact (below_size (by repeat (first | (with_reducible first | exact HB.out | apply below_alloc | apply pw_below_drewN | apply below_drew1) | exact HB.out)))); (case aL => have := LMc46.out; have hlx_ := (show m2.length = (t103.length : Int).toNat from HML.out); omega); intro v128 w54 ho hb hg hat; rw [← Ny127.out] at ho; have n0_ := Aside0.mk (Kd.R_after (ok := (fun _ => True)) (by (with_reducible repeat (first | apply Kd.R_alloc | apply Kd.R_drewN | apply Kd.R_drew)); exact HO_7.out) hg hat); have n1_ := Aside0.mk (hb); have n2_ := Aside0.mk (ho); clear HO_7; clear HB; clear HO126; have HO_7 := n0_; have HB := n1_; have HO129 := n2_; clear n0_ n1_ n2_; clear ho hb hg hat; obtain ⟨Ao55, co55, eo55⟩ := Kd.R_slice HO129.out; subst eo55) | (go_at_call 37; (with_reducible refine (fcs_More.calls a1 t120 _ _ y127 t130 _ ?side1 ?side2 ?side3 A47.out).mono ?_); (case side1 => repeat (first | exact (Kd.R_reads' HO129.out).2.2 | (with_reducible refine Kd.C_alloc ?_ _) | (with_reducible refine Kd.C_drewN ?_ _) | (with_reducible refine Kd.C_drew ?_))); (case side2 => exact (Kd.R_reads' HO129.out).2.1); (case side3 => repeat (first | exact (GF_below HGF.out HB.out) | (with_reducible refine GF_alloc ?_ _) | (with_reducible refine GF_drewN ?_ _) | (with_reducible refine GF_drew ?_))); rintro e w56 ⟨rfl, hb⟩; have n0_ := Aside0.mk (Kd.R_below (by (with_reducible repeat (first | apply Kd.R_alloc | apply Kd.R_drewN | apply Kd.R_drew)); exact HO_7.out) hb); have n1_ := Aside0.mk (Kd.R_below (by (with_reducible repeat (first | apply Kd.R_alloc | apply Kd.R_drewN | apply Kd.R_drew)); exact HO129.out) hb); have n2_ := Aside0.mk (below_step (by repeat (first | (with_reducible first | exact HB.out | apply below_alloc | apply pw_below_drewN | apply below_drew1) | exact HB.out)) hb); clear HO_7; clear HO129; clear HB; have HO_7 := n0_; have HO129 := n1_; have HB := n2_; clear n0_ n1_ n2_; (try clear hb); (try clear hb2); (try clear hk); (try clear hi)))
                            go_ret
                            exact ⟨by first | rfl | (simp [errW_none, errW_some] <;> rfl) | (simp [*, errW_none, errW_some] <;> rfl), below_then HBW.out HBW.out.size (by repeat (first | (with_reducible first | exact HB.out | apply below_alloc | apply pw_below_drewN | apply below_drew1) | exact HB.out))⟩
                          · rw [if_neg c46] at H
                            exact absurd H (by simp)
                        · rw [if_neg c45] at H
                          exact absurd H (by simp)
                    · rw [if_neg c39] at H
                      exact absurd H (by simp)
                  · rw [if_neg c38] at H
                    exact absurd H (by simp)

end Go.Proofs.YtggpejjfgphihaaDoor.Q
