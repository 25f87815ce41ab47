/- The walk of ConfigTells: whatever two configs it is handed, it returns true and writes nothing that was there. -/
import Derived.Test.YtggpejjfgphihaaDoorPuCfg
import Derived.Test.YtggpejjfgphihaaDoorGMore
import Derived.RegionTactic

import Derived.Deep.RegionHeld3
import Derived.Deep.DeepCutAuto
namespace Go.Proofs.YtggpejjfgphihaaDoor.Wk
open Go.Proofs.YtggpejjfgphihaaDoor.Given Go.Proofs.YtggpejjfgphihaaDoor.C Go.Proofs.YtggpejjfgphihaaDoor.Pu Go.RowKit Go.Proofs.YtggpejjfgphihaaDoorW.PrintWords
set_option linter.unusedVariables false

/-- a config lies at block b -/
structure Cfg (w : World) (b : Nat) (a0 a1 a2 a3 : Bool) (a4 a5 a6 : Int) : Prop where
  c0 : w.cell? ⟨b, 0, none⟩ = some (.bool a0)
  c1 : w.cell? ⟨b, 1, none⟩ = some (.bool a1)
  c2 : w.cell? ⟨b, 2, none⟩ = some (.bool a2)
  c3 : w.cell? ⟨b, 3, none⟩ = some (.bool a3)
  c4 : w.cell? ⟨b, 4, none⟩ = some (.int .u32 a4)
  c5 : w.cell? ⟨b, 5, none⟩ = some (.int .u32 a5)
  c6 : w.cell? ⟨b, 6, none⟩ = some (.int .i64 a6)
theorem Cfg.below {w w1 : World} {b : Nat} {a0 a1 a2 a3 : Bool} {a4 a5 a6 : Int} (h : Cfg w b a0 a1 a2 a3 a4 a5 a6) (hb : Below w.heap.size w w1) : Cfg w1 b a0 a1 a2 a3 a4 a5 a6 :=
  ⟨pw_cell_below hb h.c0, pw_cell_below hb h.c1, pw_cell_below hb h.c2, pw_cell_below hb h.c3, pw_cell_below hb h.c4, pw_cell_below hb h.c5, pw_cell_below hb h.c6⟩
theorem two_cells {w w1 : World} {c d : Array Value} {t u : TypeId} (hb : Below ((w.alloc (.cells c t)).alloc (.cells d u)).heap.size ((w.alloc (.cells c t)).alloc (.cells d u)) w1) :
    (∀ j, w1.cell? ⟨w.heap.size, j, none⟩ = c[j]?) ∧ (∀ j, w1.cell? ⟨w.heap.size + 1, j, none⟩ = d[j]?) := by
  constructor
  · intro j
    rw [hb.cell (p := ⟨w.heap.size, j, none⟩) (by simp; omega)]
    exact cell_of_row _ _ j c t (0, 0) (heap_alloc2_old w _ _)
  · intro j
    rw [hb.cell (p := ⟨w.heap.size + 1, j, none⟩) (by simp)]
    exact cell_of_row _ _ j d u (0, 0) (heap_alloc2_new w _ _)
theorem two_below {w w1 : World} {o p : Obj} (hb : Below ((w.alloc o).alloc p).heap.size ((w.alloc o).alloc p) w1) : Below w.heap.size w w1 ∧ w.heap.size + 1 < w1.heap.size := by
  refine ⟨below_then (((Below.refl _ _).alloc (Nat.le_refl _) _).alloc (by simp) _) (by simp; omega) hb, ?_⟩
  have := hb.size; simp at this; omega

theorem cfg_fst (w : World) (a0 a1 a2 a3 : Bool) (a4 a5 a6 : Int) (o : Obj) (t : TypeId) :
    Cfg ((w.alloc (.cells #[.bool a0, .bool a1, .bool a2, .bool a3, .int .u32 a4, .int .u32 a5, .int .i64 a6] t)).alloc o).drew w.heap.size a0 a1 a2 a3 a4 a5 a6 := by
  have h : ∀ j, (((w.alloc (.cells #[.bool a0, .bool a1, .bool a2, .bool a3, .int .u32 a4, .int .u32 a5, .int .i64 a6] t)).alloc o).drew).cell? ⟨w.heap.size, j, none⟩ = (#[.bool a0, .bool a1, .bool a2, .bool a3, .int .u32 a4, .int .u32 a5, .int .i64 a6] : Array Value)[j]? :=
    fun j => cell_of_row _ _ j _ t (0, 0) (heap_alloc2_old w _ _)
  exact ⟨h 0, h 1, h 2, h 3, h 4, h 5, h 6⟩
theorem cfg_snd (w : World) (a0 a1 a2 a3 : Bool) (a4 a5 a6 : Int) (o : Obj) (t : TypeId) :
    Cfg ((w.alloc o).alloc (.cells #[.bool a0, .bool a1, .bool a2, .bool a3, .int .u32 a4, .int .u32 a5, .int .i64 a6] t)).drew (w.heap.size + 1) a0 a1 a2 a3 a4 a5 a6 := by
  have h : ∀ j, (((w.alloc o).alloc (.cells #[.bool a0, .bool a1, .bool a2, .bool a3, .int .u32 a4, .int .u32 a5, .int .i64 a6] t)).drew).cell? ⟨w.heap.size + 1, j, none⟩ = (#[.bool a0, .bool a1, .bool a2, .bool a3, .int .u32 a4, .int .u32 a5, .int .i64 a6] : Array Value)[j]? :=
    fun j => cell_of_row _ _ j _ t (0, 0) (heap_alloc2_new w _ _)
  exact ⟨h 0, h 1, h 2, h 3, h 4, h 5, h 6⟩

theorem s_two {w1 wc W : World} {x y : Nat} {a0 a1 a2 a3 : Bool} {a4 a5 a6 : Int} {b0 b1 b2 b3 : Bool} {b4 b5 b6 : Int} (hx : Cfg wc x a0 a1 a2 a3 a4 a5 a6) (hy : Cfg wc y b0 b1 b2 b3 b4 b5 b6) (h0 : Below wc.heap.size wc W) (h1 : Below w1.heap.size w1 wc) :
    W.cell? ⟨x, 0, none⟩ = some (.bool a0) ∧ W.cell? ⟨x, 1, none⟩ = some (.bool a1) ∧ W.cell? ⟨x, 2, none⟩ = some (.bool a2) ∧ W.cell? ⟨x, 3, none⟩ = some (.bool a3) ∧ W.cell? ⟨x, 4, none⟩ = some (.int .u32 a4) ∧ W.cell? ⟨x, 5, none⟩ = some (.int .u32 a5) ∧ W.cell? ⟨x, 6, none⟩ = some (.int .i64 a6) ∧ W.cell? ⟨y, 0, none⟩ = some (.bool b0) ∧ W.cell? ⟨y, 1, none⟩ = some (.bool b1) ∧ W.cell? ⟨y, 2, none⟩ = some (.bool b2) ∧ W.cell? ⟨y, 3, none⟩ = some (.bool b3) ∧ W.cell? ⟨y, 4, none⟩ = some (.int .u32 b4) ∧ W.cell? ⟨y, 5, none⟩ = some (.int .u32 b5) ∧ W.cell? ⟨y, 6, none⟩ = some (.int .i64 b6) ∧ Below w1.heap.size w1 W := by
  have p := hx.below h0
  have q := hy.below h0
  exact ⟨p.c0, p.c1, p.c2, p.c3, p.c4, p.c5, p.c6, q.c0, q.c1, q.c2, q.c3, q.c4, q.c5, q.c6, below_step h1 h0⟩

theorem s_four {wc W : World} {x y z t : Nat} {a0 a1 a2 a3 : Bool} {a4 a5 a6 : Int} {b0 b1 b2 b3 : Bool} {b4 b5 b6 : Int} (hx : Cfg wc x a0 a1 a2 a3 a4 a5 a6) (hy : Cfg wc y b0 b1 b2 b3 b4 b5 b6) (hz : Cfg wc z a0 a1 a2 a3 a4 a5 a6) (ht : Cfg wc t b0 b1 b2 b3 b4 b5 b6) (h0 : Below wc.heap.size wc W) :
    W.cell? ⟨x, 0, none⟩ = some (.bool a0) ∧ W.cell? ⟨x, 1, none⟩ = some (.bool a1) ∧ W.cell? ⟨x, 2, none⟩ = some (.bool a2) ∧ W.cell? ⟨x, 3, none⟩ = some (.bool a3) ∧ W.cell? ⟨x, 4, none⟩ = some (.int .u32 a4) ∧ W.cell? ⟨x, 5, none⟩ = some (.int .u32 a5) ∧ W.cell? ⟨x, 6, none⟩ = some (.int .i64 a6) ∧ W.cell? ⟨y, 0, none⟩ = some (.bool b0) ∧ W.cell? ⟨y, 1, none⟩ = some (.bool b1) ∧ W.cell? ⟨y, 2, none⟩ = some (.bool b2) ∧ W.cell? ⟨y, 3, none⟩ = some (.bool b3) ∧ W.cell? ⟨y, 4, none⟩ = some (.int .u32 b4) ∧ W.cell? ⟨y, 5, none⟩ = some (.int .u32 b5) ∧ W.cell? ⟨y, 6, none⟩ = some (.int .i64 b6) ∧ W.cell? ⟨z, 0, none⟩ = some (.bool a0) ∧ W.cell? ⟨z, 1, none⟩ = some (.bool a1) ∧ W.cell? ⟨z, 2, none⟩ = some (.bool a2) ∧ W.cell? ⟨z, 3, none⟩ = some (.bool a3) ∧ W.cell? ⟨z, 4, none⟩ = some (.int .u32 a4) ∧ W.cell? ⟨z, 5, none⟩ = some (.int .u32 a5) ∧ W.cell? ⟨z, 6, none⟩ = some (.int .i64 a6) ∧ W.cell? ⟨t, 0, none⟩ = some (.bool b0) ∧ W.cell? ⟨t, 1, none⟩ = some (.bool b1) ∧ W.cell? ⟨t, 2, none⟩ = some (.bool b2) ∧ W.cell? ⟨t, 3, none⟩ = some (.bool b3) ∧ W.cell? ⟨t, 4, none⟩ = some (.int .u32 b4) ∧ W.cell? ⟨t, 5, none⟩ = some (.int .u32 b5) ∧ W.cell? ⟨t, 6, none⟩ = some (.int .i64 b6) := by
  have p := hx.below h0
  have q := hy.below h0
  have r := hz.below h0
  have s := ht.below h0
  exact ⟨p.c0, p.c1, p.c2, p.c3, p.c4, p.c5, p.c6, q.c0, q.c1, q.c2, q.c3, q.c4, q.c5, q.c6, r.c0, r.c1, r.c2, r.c3, r.c4, r.c5, r.c6, s.c0, s.c1, s.c2, s.c3, s.c4, s.c5, s.c6⟩

set_option maxHeartbeats 4000000 in
set_option maxRecDepth 100000 in
theorem tells_walk (a0 a1 a2 a3 : Bool) (a4 a5 a6 : Int) (b0 b1 b2 b3 : Bool) (b4 b5 b6 : Int) (w : World) (hgF : GF w)
    (ha4 : 0 ≤ a4 ∧ a4 < 4294967296) (hb5 : 0 ≤ b5 ∧ b5 < 4294967296) :
    Calls Tryd.prog 3 #[.agg #[.bool a0, .bool a1, .bool a2, .bool a3, .int .u32 a4, .int .u32 a5, .int .i64 a6], .agg #[.bool b0, .bool b1, .bool b2, .bool b3, .int .u32 b4, .int .u32 b5, .int .i64 b6]] w fun e w' => e = .returned (.bool true) ∧ Below w.heap.size w w' := by
  obtain ⟨A, rfl⟩ := Int.eq_ofNat_of_zero_le ha4.1
  obtain ⟨R, rfl⟩ := Int.eq_ofNat_of_zero_le hb5.1
  have HAN := Lib.hid (show A < 4294967296 by omega)
  have HRN := Lib.hid (show R < 4294967296 by omega)
  have HS := Lib.hid speaks08
  have HG := Aside0.mk hgF
  clear hgF ha4 hb5
  go_enter Tryd.func3, Tryd.ntmps3
  go_wp2_with fail
  refine (marlinelaw08_speaks.calls true _ ?gl HS.out).mono ?_
  case gl => exact GF_alloc (GF_alloc HG.out _) _
  rintro e w1 ⟨rfl, hb1⟩
  obtain ⟨ca, cb⟩ := two_cells hb1
  obtain ⟨hbw, hlt1⟩ := two_below hb1
  have hlt2 : w.heap.size < w1.heap.size := by omega
  have HB := Aside0.mk hbw
  clear hb1 hbw
  have ha : Cfg w1 w.heap.size a0 a1 a2 a3 (A : Int) a5 a6 := ⟨ca 0, ca 1, ca 2, ca 3, ca 4, ca 5, ca 6⟩
  have hb : Cfg w1 (w.heap.size + 1) b0 b1 b2 b3 b4 (R : Int) b6 := ⟨cb 0, cb 1, cb 2, cb 3, cb 4, cb 5, cb 6⟩
  have HA := Aside0.mk ha
  have HBC := Aside0.mk hb
  clear ca cb
  obtain ⟨ca0, ca1, ca2, ca3, ca4, ca5, ca6⟩ := ha
  obtain ⟨cb0, cb1, cb2, cb3, cb4, cb5, cb6⟩ := hb
  go_upto_region 3 with (fail)
  go_cut [5, 6] (fun v5 v6 wc => ∃ x y : Nat, v5 = .pointer (some ⟨x, 0, none⟩) ∧ v6 = .pointer (some ⟨y, 0, none⟩) ∧ Aside0 (Cfg wc x a0 a1 a2 a3 (A : Int) a5 a6 ∧ Cfg wc y b0 b1 b2 b3 b4 (R : Int) b6 ∧ Below w1.heap.size w1 wc))
  case first =>
    go_region
    all_goals (try go_wp2_with fail)
    all_goals go_meet
    · exact ⟨_, _, rfl, rfl, ⟨cfg_fst _ _ _ _ _ _ _ _ _ _, cfg_snd _ _ _ _ _ _ _ _ _ _, ((((Below.refl _ _).alloc (Nat.le_refl _) _).alloc (by simp) _).drew)⟩⟩
    · exact ⟨_, _, rfl, rfl, ⟨cfg_snd _ _ _ _ _ _ _ _ _ _, cfg_fst _ _ _ _ _ _ _ _ _ _, ((((Below.refl _ _).alloc (Nat.le_refl _) _).alloc (by simp) _).drew)⟩⟩
  case rest =>
    obtain ⟨x, y, rfl, rfl, HX⟩ := hcut
    clear ca0 ca1 ca2 ca3 ca4 ca5 ca6 cb0 cb1 cb2 cb3 cb4 cb5 cb6
    have hbw1 := HX.out.2.2
    have hx := HX.out.1
    have hy := HX.out.2.1
    have h2 := HA.out.below HX.out.2.2
    have h3 := HBC.out.below HX.out.2.2
    have hA := h2
    obtain ⟨cx0, cx1, cx2, cx3, cx4, cx5, cx6⟩ := hx
    obtain ⟨ca0, ca1, ca2, ca3, ca4, ca5, ca6⟩ := h2
    have hx := HX.out.1
    go_wp2_with fail
    go_region_held3 (fun W => W.cell? ⟨x, 0, none⟩ = some (.bool a0) ∧ W.cell? ⟨x, 1, none⟩ = some (.bool a1) ∧ W.cell? ⟨x, 2, none⟩ = some (.bool a2) ∧ W.cell? ⟨x, 3, none⟩ = some (.bool a3) ∧ W.cell? ⟨x, 4, none⟩ = some (.int .u32 (A : Int)) ∧ W.cell? ⟨x, 5, none⟩ = some (.int .u32 a5) ∧ W.cell? ⟨x, 6, none⟩ = some (.int .i64 a6) ∧ W.cell? ⟨w.heap.size, 0, none⟩ = some (.bool a0) ∧ W.cell? ⟨w.heap.size, 1, none⟩ = some (.bool a1) ∧ W.cell? ⟨w.heap.size, 2, none⟩ = some (.bool a2) ∧ W.cell? ⟨w.heap.size, 3, none⟩ = some (.bool a3) ∧ W.cell? ⟨w.heap.size, 4, none⟩ = some (.int .u32 (A : Int)) ∧ W.cell? ⟨w.heap.size, 5, none⟩ = some (.int .u32 a5) ∧ W.cell? ⟨w.heap.size, 6, none⟩ = some (.int .i64 a6) ∧ Below w1.heap.size w1 W)
      (exact s_two (x := x) (y := w.heap.size) hx hA (by repeat (first | exact below_drew (Below.refl _ _) | (refine below_step ?_ (by assumption)))) hbw1)
      (first
        | (go_at_call 18; refine (config_Check.calls a0 a1 a2 a3 (A : Int) a5 a6 (chk a6) _ (check_p _ _ _ _ _ _ _)).mono ?_; rintro e w' ⟨rfl, hb⟩)
        | (go_at_call 19; refine (marlineref08_Check.calls a0 a1 a2 a3 (A : Int) a5 a6 (chk a6) _ (check_r _ _ _ _ _ _ _)).mono ?_; rintro e w' ⟨rfl, hb⟩))
    go_wp2_with fail
    refine (marlineref08_Check.calls a0 a1 a2 a3 (A : Int) a5 a6 (chk a6) _ (check_r _ _ _ _ _ _ _)).mono ?_
    rintro e w4 ⟨rfl, hb4⟩
    have hc4 : Below wc.heap.size wc w4 := by repeat (first | exact below_drew (Below.refl _ _) | (refine below_step ?_ (by assumption)))
    have HC4 := Aside0.mk hc4
    have HBW := Aside0.mk (below_step (below_step HB.out hbw1) hc4)
    have hB := h3.below hc4
    clear hb4 hc4
    by_cases hz : chk a6 = 0
    case neg =>
      have hz1 : (chk a6 == 0) = false := beq_eq_false_iff_ne.2 hz
      have hz2 : (chk a6 != 0) = true := bne_iff_ne.2 hz
      clear hz
      go_wp2_with fail
      go_ret
      exact ⟨rfl, HBW.out⟩
    case pos =>
    have hz2 : (chk a6 != 0) = false := by rw [hz]; rfl
    obtain ⟨hm1, hm2⟩ := chk_zero hz
    clear hz
    obtain ⟨cb0, cb1, cb2, cb3, cb4, cb5, cb6⟩ := hB
    go_wp2_with fail
    refine (marlineref08_Check.calls b0 b1 b2 b3 b4 (R : Int) b6 (chk b6) _ (check_r _ _ _ _ _ _ _)).mono ?_
    rintro e w5 ⟨rfl, hbq5⟩
    have hc5 := below_step HC4.out hbq5
    have HC5 := Aside0.mk hc5
    have HBW5 := Aside0.mk (below_step HBW.out hbq5)
    clear hbq5 hc5 cb0 cb1 cb2 cb3 cb4 cb5 cb6
    by_cases hz : chk b6 = 0
    case neg =>
      have hz1 : (chk b6 == 0) = false := beq_eq_false_iff_ne.2 hz
      have hz2 : (chk b6 != 0) = true := bne_iff_ne.2 hz
      clear hz
      go_wp2_with fail
      go_ret
      exact ⟨rfl, HBW5.out⟩
    case pos =>
    have hz3 : (chk b6 != 0) = false := by rw [hz]; rfl
    obtain ⟨hn1, hn2⟩ := chk_zero hz
    clear hz
    go_wp2_with fail
    have hgw : GF wc := GF_below (GF_below HG.out HB.out) hbw1
    have h2 := hA
    go_region_held3 (fun W => W.cell? ⟨x, 0, none⟩ = some (.bool a0) ∧ W.cell? ⟨x, 1, none⟩ = some (.bool a1) ∧ W.cell? ⟨x, 2, none⟩ = some (.bool a2) ∧ W.cell? ⟨x, 3, none⟩ = some (.bool a3) ∧ W.cell? ⟨x, 4, none⟩ = some (.int .u32 (A : Int)) ∧ W.cell? ⟨x, 5, none⟩ = some (.int .u32 a5) ∧ W.cell? ⟨x, 6, none⟩ = some (.int .i64 a6) ∧ W.cell? ⟨y, 0, none⟩ = some (.bool b0) ∧ W.cell? ⟨y, 1, none⟩ = some (.bool b1) ∧ W.cell? ⟨y, 2, none⟩ = some (.bool b2) ∧ W.cell? ⟨y, 3, none⟩ = some (.bool b3) ∧ W.cell? ⟨y, 4, none⟩ = some (.int .u32 b4) ∧ W.cell? ⟨y, 5, none⟩ = some (.int .u32 (R : Int)) ∧ W.cell? ⟨y, 6, none⟩ = some (.int .i64 b6) ∧ W.cell? ⟨w.heap.size, 0, none⟩ = some (.bool a0) ∧ W.cell? ⟨w.heap.size, 1, none⟩ = some (.bool a1) ∧ W.cell? ⟨w.heap.size, 2, none⟩ = some (.bool a2) ∧ W.cell? ⟨w.heap.size, 3, none⟩ = some (.bool a3) ∧ W.cell? ⟨w.heap.size, 4, none⟩ = some (.int .u32 (A : Int)) ∧ W.cell? ⟨w.heap.size, 5, none⟩ = some (.int .u32 a5) ∧ W.cell? ⟨w.heap.size, 6, none⟩ = some (.int .i64 a6) ∧ W.cell? ⟨w.heap.size + 1, 0, none⟩ = some (.bool b0) ∧ W.cell? ⟨w.heap.size + 1, 1, none⟩ = some (.bool b1) ∧ W.cell? ⟨w.heap.size + 1, 2, none⟩ = some (.bool b2) ∧ W.cell? ⟨w.heap.size + 1, 3, none⟩ = some (.bool b3) ∧ W.cell? ⟨w.heap.size + 1, 4, none⟩ = some (.int .u32 b4) ∧ W.cell? ⟨w.heap.size + 1, 5, none⟩ = some (.int .u32 (R : Int)) ∧ W.cell? ⟨w.heap.size + 1, 6, none⟩ = some (.int .i64 b6))
      (exact s_four (x := x) (y := y) (z := w.heap.size) (t := w.heap.size + 1) hx hy h2 h3 (by repeat (first | exact below_drew HC5.out | (refine below_step ?_ (by assumption)))))
      (first
        | (go_at_call 20; refine (config_Most.calls a0 a1 a2 a3 (A : Int) a5 a6 (mostV a1 a6) _ (GF_below hgw (by repeat (first | exact below_drew HC5.out | (refine below_step ?_ (by assumption))))) (most_p _ _ _ _ _ _ _ hm1 hm2)).mono ?_; rintro e w' ⟨rfl, hb⟩)
        | (go_at_call 21; refine (marlineref08_Most.calls a0 a1 a2 a3 (A : Int) a5 a6 (mostV a1 a6) _ (most_r _ _ _ _ _ _ _ hm1 hm2)).mono ?_; rintro e w' ⟨rfl, hb⟩)
        | (go_at_call 22; refine (config_Fits.calls 3 a0 a1 a2 a3 (A : Int) a5 a6 b0 b1 b2 b3 b4 (R : Int) b6 (fitsV a0 a1 a2 a3 (A : Int) a6 b0 b1 b2 b3 (R : Int) b6) _ (fits_p 0 _ _ _ _ _ _ _ _ _ _ _ _ _ _)).mono ?_; rintro e w' ⟨rfl, hb⟩)
        | (go_at_call 23; refine (marlineref08_Fits.calls 70 a0 a1 a2 a3 (A : Int) a5 a6 b0 b1 b2 b3 b4 (R : Int) b6 (fitsV a0 a1 a2 a3 (A : Int) a6 b0 b1 b2 b3 (R : Int) b6) _ (fits_r 0 _ _ _ _ _ _ _ _ _ _ _ _ _ _ HAN.out HRN.out)).mono ?_; rintro e w' ⟨rfl, hb⟩))
    go_wp2
    go_ret
    exact ⟨rfl, below_step (below_step HB.out hbw1) (by repeat (first | exact below_drew HC5.out | (refine below_step ?_ (by assumption))))⟩

theorem tells_holds (a0 a1 a2 a3 : Bool) (a4 a5 a6 : Int) (b0 b1 b2 b3 : Bool) (b4 b5 b6 : Int) (w : World) (hgF : GF w)
    (h04 : 0 ≤ a4 ∧ a4 < 4294967296) (h05 : 0 ≤ a5 ∧ a5 < 4294967296) (h06 : -9223372036854775808 ≤ a6 ∧ a6 ≤ 9223372036854775807)
    (h14 : 0 ≤ b4 ∧ b4 < 4294967296) (h15 : 0 ≤ b5 ∧ b5 < 4294967296) (h16 : -9223372036854775808 ≤ b6 ∧ b6 ≤ 9223372036854775807) :
    Calls Tryd.prog 3 #[.agg #[.bool a0, .bool a1, .bool a2, .bool a3, .int .u32 a4, .int .u32 a5, .int .i64 a6], .agg #[.bool b0, .bool b1, .bool b2, .bool b3, .int .u32 b4, .int .u32 b5, .int .i64 b6]] w fun e w' => e = .returned (.bool true) ∧ Below w.heap.size w w' :=
  tells_walk a0 a1 a2 a3 a4 a5 a6 b0 b1 b2 b3 b4 b5 b6 w hgF h04 h15
end Go.Proofs.YtggpejjfgphihaaDoor.Wk
