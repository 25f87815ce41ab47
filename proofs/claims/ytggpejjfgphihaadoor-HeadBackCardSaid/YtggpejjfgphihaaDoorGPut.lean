/- head.Put, by hand. -/
import Derived.Test.YtggpejjfgphihaaDoorGHead
namespace Go.Proofs.YtggpejjfgphihaaDoor.Given
open Go.RowKit Go.Proofs.YtggpejjfgphihaaDoorW.PrintWords Go.Proofs.YtggpejjfgphihaaDoorW.PrintLast Go.Proofs.YtggpejjfgphihaaDoorW.PrintMore
open Go.Proofs.YtggpejjfgphihaaDoor.H
set_option linter.unusedVariables false
set_option linter.unusedSimpArgs false

def head_Put.f (k : Nat) (a0_0 a0_1 a0_2 a0_3 : Bool) (a0_4 a0_5 a0_6 : Int) (a1 : Int) : Option (List Int) :=
  (proto_Put.f k a1 (a0_3 && !(a1 == 49185))).bind fun t => if (a0_2 && !(a1 == 49185)) = true then some t else if 0 < t.length ∧ t.length < 1000 then some ([255, 3] ++ t) else none
theorem head_Put.mono : ∀ a0_0 a0_1 a0_2 a0_3 a0_4 a0_5 a0_6 a1 k, LeO (head_Put.f k a0_0 a0_1 a0_2 a0_3 a0_4 a0_5 a0_6 a1) (head_Put.f (k + 1) a0_0 a0_1 a0_2 a0_3 a0_4 a0_5 a0_6 a1) := by
  intro a0_0 a0_1 a0_2 a0_3 a0_4 a0_5 a0_6 a1 k
  unfold head_Put.f
  exact LeO.bind (proto_Put.mono _ _ _) (fun _ => LeO.refl _)
theorem head_Get.mono : ∀ a0_0 a0_1 a0_2 a0_3 a0_4 a0_5 a0_6 a1 k, LeO (head_Get.f k a0_0 a0_1 a0_2 a0_3 a0_4 a0_5 a0_6 a1) (head_Get.f (k + 1) a0_0 a0_1 a0_2 a0_3 a0_4 a0_5 a0_6 a1) := by
  intro a0_0 a0_1 a0_2 a0_3 a0_4 a0_5 a0_6 a1 k
  unfold head_Get.f
  refine LeO.bind (LeO.refl _) (fun has => ?_)
  split
  · exact LeO.refl _
  · exact LeO.bind (proto_Get.mono _ _ _) (fun _ => LeO.refl _)
theorem full_cut2 (a : Addr) (W : World) : (Instr.sliceAt 82 (.pointer (some a)) none (some (.int .i64 2)) (some (.int .i64 2))).run Tryd.prog W = .ok (.slice (some a) 2 2) W := by
  obtain ⟨i0, hi0, _, hsz, _⟩ := info_parts info5
  have hu : Tryd.prog.underlying 82 = some (.array (Tryd.prog.arrayLen 82) (Tryd.prog.elem 82)) := by kernel_rfl
  rw [run_sliceAt_array_hm W 82 a hu .i64 .i64 2 2 (by decide) (by decide) (by rw [full_len]; decide), full_elem]
  simp [sizeOf, typeInfo, hi0, hsz, slicedAt, sliced, Result.andThen, Addr.add]
theorem full_at (w : World) : ∀ j u, [Value.int .u8 255, Value.int .u8 3][j]? = some u → (w.alloc (.cells #[.int .u8 255, .int .u8 3] 82)).cell? ((⟨w.heap.size, 0, none⟩ : Addr).add j) = some u := by
  intro j u h
  rw [add_plain, cell_of_row _ _ j _ 82 (0, 0) (heap_alloc_new w _)]
  match j, h with
  | 0, h => exact h
  | 1, h => exact h
  | j + 2, h => exact absurd h (by simp)
theorem news_at {w : World} {A : Option Addr} {t : List Int} (h : Kd.C (Kd.int .u8) w A t.length t) (hp : 0 < t.length) : ∃ ad, A = some ad ∧ ∀ j u, (encs (Value.int .u8) t)[j]? = some u → w.cell? (ad.add j) = some u := by
  obtain ⟨_, _, hc⟩ := Kd.reads_of_C (d := (0 : Int)) h
  obtain ⟨ad, ha, hj⟩ := hc hp
  refine ⟨ad, ha, fun j u hu => ?_⟩
  have hlt : j < t.length := by
    have := (List.getElem?_eq_some_iff.1 hu).1
    simpa [encs] using this
  rw [hj j hlt]
  rw [← hu]
  simp [encs, List.getD_eq_getElem?_getD, hlt]
set_option maxHeartbeats 8000000 in
set_option maxRecDepth 100000 in
theorem head_Put.calls (k : Nat) (a0_0 a0_1 a0_2 a0_3 : Bool) (a0_4 a0_5 a0_6 : Int) (a1 : Int) (r : List Int) (w : World) (hgH : GH w)
    (h : head_Put.f k a0_0 a0_1 a0_2 a0_3 a0_4 a0_5 a0_6 a1 = some r) :
    Calls Tryd.prog 32 #[.agg #[.bool a0_0, .bool a0_1, .bool a0_2, .bool a0_3, .int .u32 a0_4, .int .u32 a0_5, .int .i64 a0_6], .int .u16 a1] w fun e w' => ∃ v0_ : Value, e = .returned (v0_) ∧ Kd.Q (Kd.int .u8) 5 w' w.heap.size (fun _ => True) v0_ r ∧ Below w.heap.size w w' := by
  have HG := Aside0.mk hgH
  clear hgH
  obtain ⟨L, hL⟩ : ∃ L : Bool, L = (a1 == 49185) := ⟨_, rfl⟩
  obtain ⟨sh, hsh⟩ : ∃ sh : Bool, sh = (a0_3 && !L) := ⟨_, rfl⟩
  obtain ⟨bare, hbare⟩ : ∃ bare : Bool, bare = (a0_2 && !L) := ⟨_, rfl⟩
  unfold head_Put.f at h
  rw [← hL, ← hsh, ← hbare] at h
  obtain ⟨t, hp, h0⟩ := Option.bind_eq_some_iff.1 h
  have HP := Aside0.mk hp
  have H := Aside0.mk h0
  clear h hp h0
  go_enter Tryd.func32, Tryd.ntmps32
  go_upto_region 1 with (fail)
  obtain ⟨w1, hw1⟩ : ∃ W, W = w.alloc (.cells #[.bool a0_0, .bool a0_1, .bool a0_2, .bool a0_3, .int .u32 a0_4, .int .u32 a0_5, .int .i64 a0_6] 26) := ⟨_, rfl⟩
  have hb1 : Below w.heap.size w w1 := by rw [hw1]; exact below_alloc (Below.refl _ _) _
  have hs1 : w1.heap.size = w.heap.size + 1 := by rw [hw1]; simp
  have ca2 : w1.cell? ⟨w.heap.size, 2, none⟩ = some (.bool a0_2) := by rw [hw1]; exact cell_of_row _ _ 2 _ 26 (0, 0) (heap_alloc_new w _)
  have ca3 : w1.cell? ⟨w.heap.size, 3, none⟩ = some (.bool a0_3) := by rw [hw1]; exact cell_of_row _ _ 3 _ 26 (0, 0) (heap_alloc_new w _)
  rw [← hw1]
  have HB1 := Aside0.mk hb1
  have HS1 := Aside0.mk hs1
  clear hb1 hw1 hs1
  have hL' : (a1 == 49185) = L := hL.symm
  clear hL
  cases L <;> cases a0_3 <;> cases a0_2
  all_goals
    simp only [Bool.not_true, Bool.not_false, Bool.and_true, Bool.and_false, Bool.true_and, Bool.false_and] at hsh hbare
    subst hsh hbare
  all_goals
    go_wp2_with fail
    refine (proto_Put.calls k a1 _ t _ HP.out).mono ?_
    rintro e w3 ⟨v, rfl, hq, hb3⟩
    have d2 := pw_cell_below hb3 ca2
    have HQ := Aside0.mk hq
    have HB3 := Aside0.mk (below_then HB1.out HB1.out.size hb3)
    have HS3 := Aside0.mk hb3.size
    clear hq hb3
    have H2 := H.out
    simp only [Bool.false_eq_true, if_true, if_false] at H2
  all_goals first
    | (obtain rfl := Option.some.inj H2
       go_wp2_with fail
       go_ret
       exact ⟨_, rfl, Kd.Q_lower HQ.out (by have := HS1.out; omega), HB3.out⟩)
    | skip
  all_goals
    split at H2
    case isFalse => cases H2
    rename_i hlen
    obtain rfl := Option.some.inj H2
    obtain ⟨hl0, hl1⟩ := hlen
    obtain ⟨g, o, cap, rfl, hg1, hg2, _⟩ := Kd.Q_form HQ.out hl0
    obtain ⟨hn1, hn2, hn3⟩ := Kd.Q_reads' HQ.out
    have HN3 := Aside0.mk hn3
    have HL0 := Aside0.mk hl0
    have HL1 := Aside0.mk hl1
    obtain ⟨q0, q1⟩ := GH_below HG.out HB3.out
    have hg := heap_alloc_new w3 (.cells #[.int .u8 0, .int .u8 0] 82)
    have hrow := made_row w3 #[.int .u8 0, .int .u8 0] #[.int .u8 255, .int .u8 3] 82
    have hsz := hi82
    clear hl0 hl1 hn1 hn2 hn3 hg1 hg2 H2
    go_upto_region 6 with (first
          | (with_reducible refine wpList_store_row rfl 82 (.tmp 7) (.tmp 25) rfl w3.heap.size #[.int .u8 255, .int .u8 3] rfl rfl 82 #[.int .u8 0, .int .u8 0] hg hsz rfl (by decide) ?_; rw [hrow]))
    clear hg hrow hsz q0 q1
    have hcut := fun W => full_cut2 ⟨w3.heap.size, 0, none⟩ W
    have HF := Aside0.mk (full_at w3)
    obtain ⟨ad, had, hnews⟩ := news_at (Kd.C_below HN3.out (below_alloc (Below.refl _ _) (.cells #[.int .u8 255, .int .u8 3] 82))) HL0.out
    obtain rfl := Option.some.inj had
    have HB4 := Aside0.mk (below_alloc HB3.out (.cells #[.int .u8 255, .int .u8 3] 82))
    have HNW := Aside0.mk hnews
    have HS4 := Aside0.mk (show w.heap.size ≤ (w3.alloc (.cells #[.int .u8 255, .int .u8 3] 82)).heap.size from HB4.out.size)
    generalize w3.alloc (.cells #[.int .u8 255, .int .u8 3] 82) = w4 at HF HNW HB4 HS4 ⊢
    clear hnews had
    obtain ⟨i0, hi0, hz0, hsz0, hby0⟩ := info_parts info5
    go_wp2_with (first
          | ((with_reducible refine gate_builtin (b := .append) (xs := #[.tmp 26, .tmp 27]) rfl ?_)
             (try (refine gate_guard (by rfl) ?_; dsimp only))
             at_builtin
             refine wpList_append_grows _ rfl (.tmp 26) (.tmp 27) 35 rfl 5 i0 (.int .u8 0) 1 1 Tryd.underlying35 hi0 hz0 hsz0 hby0 rfl (by decide) (some ⟨w3.heap.size, 0, none⟩) 2 2 [.int .u8 255, .int .u8 3] rfl (fun h => by cases h) rfl (fun b hb => by cases hb; exact HF.out) ⟨g, o, none⟩ t.length cap (encs (Value.int .u8) t) rfl (by rw [encs_length, Nat.mul_one]) HNW.out (fun u hu => by obtain ⟨x, _, rfl⟩ := List.mem_map.1 hu; rfl) (by have := HL0.out; omega) (by have := HL1.out; simp only [maxLen]; omega) (by have := HL1.out; omega) ?_
             intro v' w5 hown hgr
             have HO := Aside0.mk hown
             have HGR := Aside0.mk hgr
             clear hown hgr))
    go_ret
    refine ⟨_, rfl, Kd.Q_lower (Kd.Q_of_R (Kd.R_of_own (enc := Value.int .u8) (xs := [255, 3] ++ t) (by have h_ := HO.out; rw [show ([255, 3] ++ t : List Int).length = 2 + t.length by rw [List.length_append]; rfl]; exact h_) (fun _ _ => trivial))) HS4.out, HB4.out.grown HGR.out HS4.out (fun k hk => by cases hk)⟩
end Go.Proofs.YtggpejjfgphihaaDoor.Given
