/- head.Put and head.Get, by hand: they read a package-level array. -/
import Derived.Test.YtggpejjfgphihaaDoorGCut
import Derived.Test.YtggpejjfgphihaaDoorHx3
import Derived.ArgAppend
namespace Go.Proofs.YtggpejjfgphihaaDoor.Given
open Go.RowKit Go.Proofs.YtggpejjfgphihaaDoorW.PrintWords Go.Proofs.YtggpejjfgphihaaDoorW.PrintLast Go.Proofs.YtggpejjfgphihaaDoorW.PrintMore
open Go.Proofs.YtggpejjfgphihaaDoor.H
set_option linter.unusedVariables false
set_option linter.unusedSimpArgs false

def head_Get.f (k : Nat) (a0_0 a0_1 a0_2 a0_3 : Bool) (a0_4 a0_5 a0_6 : Int) (l1 : List Int) : Option (Int × Int × Int) :=
  (bytes_HasPrefix.f l1 [255, 3]).bind fun has => if has = false ∧ a0_2 = false then some (0, 0, 7) else
    (proto_Get.f k (cutOf has l1 [255, 3]) a0_3).bind fun t => if t.2.2 = 0 then some (t.1, wrap64 (wrap64 ((l1.length : Int) - ((cutOf has l1 [255, 3]).length : Int)) + t.2.1), 0) else some (0, 0, 7)
theorem full_reads (w : World) : Kd.C (Kd.int .u8) (w.alloc (.cells #[.int .u8 255, .int .u8 3] 82)) (some ⟨w.heap.size, 0, none⟩) ([255, 3] : List Int).length [255, 3] :=
  Kd.C_of_reads (d := (0 : Int)) (h1 := fun _ => rfl) ⟨rfl, by decide, fun _ => ⟨_, rfl, fun j hj => by
      rw [add_plain, cell_of_row _ _ j _ 82 (0, 0) (heap_alloc_new w _)]
      match j, hj with
      | 0, _ => rfl
      | 1, _ => rfl
      | j + 2, hj => exact absurd hj (by simp)⟩⟩
theorem hi82 : (Tryd.prog.info? 82).map (·.size) = some 2 := by kernel_rfl
theorem full_len : Tryd.prog.arrayLen 82 = 2 := by kernel_rfl
theorem full_elem : Tryd.prog.elem 82 = 5 := by kernel_rfl
theorem full_cut (a : Addr) (W : World) : (Instr.sliceAt 82 (.pointer (some a)) none none none).run Tryd.prog W = .ok (.slice (some a) 2 2) W := by
  obtain ⟨i0, hi0, _, hsz, _⟩ := info_parts info5
  have hu : Tryd.prog.underlying 82 = some (.array (Tryd.prog.arrayLen 82) (Tryd.prog.elem 82)) := by kernel_rfl
  rw [run_sliceAt_array_all W 82 a hu, full_elem, full_len]
  simp [sizeOf, typeInfo, hi0, hsz, slicedAt, sliced, Result.andThen, Addr.add]
set_option maxHeartbeats 4000000 in
set_option maxRecDepth 100000 in
theorem head_Get.calls (k : Nat) (a0_0 a0_1 a0_2 a0_3 : Bool) (a0_4 a0_5 a0_6 : Int) (A1 : Option Addr) (c1 : Nat) (l1 : List Int) (r1 r2 r3 : Int) (w : World) (hr1 : Kd.C (Kd.int .u8) w A1 l1.length l1) (hc1 : l1.length ≤ c1) (hgH : GH w)
    (h : head_Get.f k a0_0 a0_1 a0_2 a0_3 a0_4 a0_5 a0_6 l1 = some (r1, r2, r3)) :
    Calls Tryd.prog 29 #[.agg #[.bool a0_0, .bool a0_1, .bool a0_2, .bool a0_3, .int .u32 a0_4, .int .u32 a0_5, .int .i64 a0_6], .slice A1 l1.length c1] w fun e w' => e = .returned (.tuple #[.int .u16 r1, .int .i64 r2, .int .i64 r3]) ∧ Below w.heap.size w w' := by
  obtain ⟨g0, g1⟩ := hgH
  have lt0 : 0 < w.heap.size := World.block_lt_of_cell? w _ g0
  have HR := Aside0.mk hr1
  have HC := Aside0.mk hc1
  have H := Aside0.mk h
  clear hr1 hc1 h
  go_enter Tryd.func29, Tryd.ntmps29
  go_upto_region 1 with (fail)
  obtain ⟨w1, hw1⟩ : ∃ W, W = w.alloc (.cells #[.bool a0_0, .bool a0_1, .bool a0_2, .bool a0_3, .int .u32 a0_4, .int .u32 a0_5, .int .i64 a0_6] 26) := ⟨_, rfl⟩
  have hb1 : Below w.heap.size w w1 := by rw [hw1]; exact below_alloc (Below.refl _ _) _
  have hs1 : w1.heap.size = w.heap.size + 1 := by rw [hw1]; simp
  have q0 : w1.cell? ⟨0, 0, none⟩ = some (.int .u8 255) := pw_cell_below hb1 g0
  have q1 : w1.cell? ⟨0, 1, none⟩ = some (.int .u8 3) := pw_cell_below hb1 g1
  have ca2 : w1.cell? ⟨w.heap.size, 2, none⟩ = some (.bool a0_2) := by rw [hw1]; exact cell_of_row _ _ 2 _ 26 (0, 0) (heap_alloc_new w _)
  have ca3 : w1.cell? ⟨w.heap.size, 3, none⟩ = some (.bool a0_3) := by rw [hw1]; exact cell_of_row _ _ 3 _ 26 (0, 0) (heap_alloc_new w _)
  rw [← hw1]
  have HR1 := Aside0.mk (Kd.C_below HR.out hb1)
  have HB1 := Aside0.mk hb1
  clear HR hb1 hw1 g0 g1 lt0
  have hg := heap_alloc_new w1 (.cells #[.int .u8 0, .int .u8 0] 82)
  have hrow := made_row w1 #[.int .u8 0, .int .u8 0] #[.int .u8 255, .int .u8 3] 82
  have hsz := hi82
  go_upto_region 2 with (first
        | (with_reducible refine wpList_store_row rfl 82 (.tmp 7) (.tmp 13) rfl w1.heap.size #[.int .u8 255, .int .u8 3] rfl rfl 82 #[.int .u8 0, .int .u8 0] hg hsz rfl (by decide) ?_; rw [hrow]))
  clear hg hrow hsz q0 q1
  obtain ⟨w2, hw2⟩ : ∃ W, W = w1.alloc (.cells #[.int .u8 255, .int .u8 3] 82) := ⟨_, rfl⟩
  have hf : Kd.C (Kd.int .u8) w2 (some ⟨w.heap.size + 1, 0, none⟩) ([255, 3] : List Int).length [255, 3] := by rw [hw2, ← hs1]; exact full_reads w1
  have hb2 : Below w1.heap.size w1 w2 := by rw [hw2]; exact below_alloc (Below.refl _ _) _
  have d2 : w2.cell? ⟨w.heap.size, 2, none⟩ = some (.bool a0_2) := pw_cell_below hb2 ca2
  have d3 : w2.cell? ⟨w.heap.size, 3, none⟩ = some (.bool a0_3) := pw_cell_below hb2 ca3
  rw [← hw2]
  have HF := Aside0.mk hf
  have HR2 := Aside0.mk (Kd.C_below HR1.out hb2)
  have HB2 := Aside0.mk (below_then HB1.out HB1.out.size hb2)
  clear HR1 HB1 hb2 hw2 hf ca2 ca3
  have hcut := fun W => full_cut ⟨w.heap.size + 1, 0, none⟩ W
  unfold head_Get.f at H
  obtain ⟨has, hh, H0⟩ := Option.bind_eq_some_iff.1 H.out
  have HH := Aside0.mk hh
  have H1 := Aside0.mk H0
  clear H hh H0
  go_wp2_with fail
  refine (cutPrefix_calls A1 c1 l1 _ 2 [255, 3] has _ HR2.out HC.out HF.out (by decide) HH.out).mono ?_
  rintro e w3 ⟨A', c', rfl, ⟨nd, rfl⟩, hrm, hcm⟩
  obtain ⟨m, hm⟩ : ∃ m, m = cutOf has l1 [255, 3] := ⟨_, rfl⟩
  rw [← hm] at hrm hcm H1 ⊢
  have HRM := Aside0.mk hrm
  have HCM := Aside0.mk hcm
  clear hrm hcm hm
  cases has with
  | false =>
    cases a0_2 with
    | false =>
      have H2 := H1.out
      rw [if_pos ⟨rfl, rfl⟩] at H2
      obtain ⟨rfl, rfl, rfl⟩ : 0 = r1 ∧ 0 = r2 ∧ 7 = r3 := by simpa using H2
      clear H2
      go_wp2_with fail
      go_ret3
      exact ⟨rfl, pw_below_drewN HB2.out _⟩
    | true =>
      have H2 := H1.out
      rw [if_neg (fun h => by cases h.2)] at H2
      obtain ⟨⟨t1, t2, t3⟩, hp, H3⟩ := Option.bind_eq_some_iff.1 H2
      have HP := Aside0.mk hp
      clear H2 hp H1
      by_cases hz : t3 = 0
      · subst hz
        rw [if_pos rfl] at H3
        obtain ⟨rfl, rfl, rfl⟩ : t1 = r1 ∧ wrap64 (wrap64 ((l1.length : Int) - (m.length : Int)) + t2) = r2 ∧ 0 = r3 := by simpa using H3
        clear H3
        go_wp2_with fail
        refine (proto_Get.calls k _ _ m a0_3 t1 t2 0 _ (Kd.C_drewN HRM.out _) HCM.out HP.out).mono ?_
        rintro e w4 ⟨rfl, ⟨nd2, rfl⟩⟩
        go_wp2_with fail
        go_ret3
        exact ⟨by rfl, pw_below_drewN HB2.out _⟩
      · rw [if_neg hz] at H3
        obtain ⟨rfl, rfl, rfl⟩ : 0 = r1 ∧ 0 = r2 ∧ 7 = r3 := by simpa using H3
        clear H3
        have hz0 : (t3 == 0) = false := beq_eq_false_iff_ne.2 hz
        have hz1 : (t3 != 0) = true := bne_iff_ne.2 hz
        go_wp2_with fail
        refine (proto_Get.calls k _ _ m a0_3 t1 t2 t3 _ (Kd.C_drewN HRM.out _) HCM.out HP.out).mono ?_
        rintro e w4 ⟨rfl, ⟨nd2, rfl⟩⟩
        go_wp2_with fail
        go_ret3
        exact ⟨rfl, pw_below_drewN HB2.out _⟩
  | true =>
      have H2 := H1.out
      rw [if_neg (fun h => by cases h.1)] at H2
      obtain ⟨⟨t1, t2, t3⟩, hp, H3⟩ := Option.bind_eq_some_iff.1 H2
      have HP := Aside0.mk hp
      clear H2 hp H1
      by_cases hz : t3 = 0
      · subst hz
        rw [if_pos rfl] at H3
        obtain ⟨rfl, rfl, rfl⟩ : t1 = r1 ∧ wrap64 (wrap64 ((l1.length : Int) - (m.length : Int)) + t2) = r2 ∧ 0 = r3 := by simpa using H3
        clear H3
        go_wp2_with fail
        refine (proto_Get.calls k _ _ m a0_3 t1 t2 0 _ (Kd.C_drewN HRM.out _) HCM.out HP.out).mono ?_
        rintro e w4 ⟨rfl, ⟨nd2, rfl⟩⟩
        go_wp2_with fail
        go_ret3
        exact ⟨by rfl, pw_below_drewN HB2.out _⟩
      · rw [if_neg hz] at H3
        obtain ⟨rfl, rfl, rfl⟩ : 0 = r1 ∧ 0 = r2 ∧ 7 = r3 := by simpa using H3
        clear H3
        have hz0 : (t3 == 0) = false := beq_eq_false_iff_ne.2 hz
        have hz1 : (t3 != 0) = true := bne_iff_ne.2 hz
        go_wp2_with fail
        refine (proto_Get.calls k _ _ m a0_3 t1 t2 t3 _ (Kd.C_drewN HRM.out _) HCM.out HP.out).mono ?_
        rintro e w4 ⟨rfl, ⟨nd2, rfl⟩⟩
        go_wp2_with fail
        go_ret3
        exact ⟨rfl, pw_below_drewN HB2.out _⟩
end Go.Proofs.YtggpejjfgphihaaDoor.Given
