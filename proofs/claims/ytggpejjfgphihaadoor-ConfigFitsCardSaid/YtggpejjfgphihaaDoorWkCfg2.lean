/- The walk of ConfigFits: whatever three configs it is handed, it returns true and writes nothing that was there. -/
import Derived.Test.YtggpejjfgphihaaDoorWkThree
namespace Go.Proofs.YtggpejjfgphihaaDoor.Wk
open Go.Proofs.YtggpejjfgphihaaDoor.Given Go.Proofs.YtggpejjfgphihaaDoor.C Go.Proofs.YtggpejjfgphihaaDoor.F Go.Proofs.YtggpejjfgphihaaDoor.Pu Go.RowKit Go.Proofs.YtggpejjfgphihaaDoorW.PrintWords
set_option linter.unusedVariables false

set_option maxHeartbeats 8000000 in
set_option maxRecDepth 100000 in
theorem fits_walk (a0 a1 a2 a3 : Bool) (a4 a5 a6 : Int) (b0 b1 b2 b3 : Bool) (b4 b5 b6 : Int) (c0 c1 c2 c3 : Bool) (c4 c5 c6 : Int) (w : World) (hgF : GF w)
    (ha4 : 0 ≤ a4 ∧ a4 < 4294967296) :
    Calls Tryd.prog 4 #[.agg #[.bool a0, .bool a1, .bool a2, .bool a3, .int .u32 a4, .int .u32 a5, .int .i64 a6], .agg #[.bool b0, .bool b1, .bool b2, .bool b3, .int .u32 b4, .int .u32 b5, .int .i64 b6], .agg #[.bool c0, .bool c1, .bool c2, .bool c3, .int .u32 c4, .int .u32 c5, .int .i64 c6]] w fun e w' => e = .returned (.bool true) ∧ Below w.heap.size w w' := by
  obtain ⟨A, rfl⟩ := Int.eq_ofNat_of_zero_le ha4.1
  have HAN := Lib.hid (show A < 4294967296 by omega)
  have HS := Lib.hid speaks08
  have HG := Aside0.mk hgF
  clear hgF ha4
  go_enter Tryd.func4, Tryd.ntmps4
  go_wp2_with fail
  refine (marlinelaw08_speaks.calls true _ ?gl HS.out).mono ?_
  case gl => exact GF_alloc (GF_alloc (GF_alloc HG.out _) _) _
  rintro e w1 ⟨rfl, hb1⟩
  obtain ⟨ca, cb, cc⟩ := three_cells hb1
  obtain ⟨hbw, hlt1⟩ := three_below hb1
  have HB := Aside0.mk hbw
  clear hb1 hbw
  have ha : Cfg w1 w.heap.size a0 a1 a2 a3 A a5 a6 := ⟨ca 0, ca 1, ca 2, ca 3, ca 4, ca 5, ca 6⟩
  have hb : Cfg w1 (w.heap.size + 1) b0 b1 b2 b3 b4 b5 b6 := ⟨cb 0, cb 1, cb 2, cb 3, cb 4, cb 5, cb 6⟩
  have hc : Cfg w1 (w.heap.size + 1 + 1) c0 c1 c2 c3 c4 c5 c6 := ⟨cc 0, cc 1, cc 2, cc 3, cc 4, cc 5, cc 6⟩
  have HA := Aside0.mk ha
  have HBC := Aside0.mk hb
  have HCC := Aside0.mk hc
  clear ca cb cc
  obtain ⟨ca0, ca1, ca2, ca3, ca4, ca5, ca6⟩ := ha
  clear hb hc
  go_wp2_with fail
  refine (marlineref08_Check.calls a0 a1 a2 a3 A a5 a6 (chk a6) _ (check_r _ _ _ _ _ _ _)).mono ?_
  rintro e w2 ⟨rfl, hb2⟩
  have HB2 := Aside0.mk hb2
  clear hb2 ca0 ca1 ca2 ca3 ca4 ca5 ca6
  by_cases hz : chk a6 = 0
  case neg =>
    have hz1 : (chk a6 == 0) = false := beq_eq_false_iff_ne.2 hz
    have hz2 : (chk a6 != 0) = true := bne_iff_ne.2 hz
    clear hz
    go_wp2_with fail
    refine (marlinelaw08_speaks.calls true _ (GF_below (GF_below HG.out HB.out) HB2.out) HS.out).mono ?_
    rintro e w3 ⟨rfl, hb3⟩
    go_wp2
    go_ret
    exact ⟨rfl, below_step (below_step HB.out HB2.out) hb3⟩
  case pos =>
  have hz2 : (chk a6 != 0) = false := by rw [hz]; rfl
  clear hz
  obtain ⟨cb0, cb1, cb2, cb3, cb4, cb5, cb6⟩ := HBC.out.below HB2.out
  go_wp2_with fail
  refine (marlineref08_Check.calls b0 b1 b2 b3 b4 b5 b6 (chk b6) _ (check_r _ _ _ _ _ _ _)).mono ?_
  rintro e w3 ⟨rfl, hb3⟩
  have HB3 := Aside0.mk (below_step HB2.out hb3)
  clear hb3 cb0 cb1 cb2 cb3 cb4 cb5 cb6
  by_cases hz : chk b6 = 0
  case neg =>
    have hz1 : (chk b6 == 0) = false := beq_eq_false_iff_ne.2 hz
    have hz2 : (chk b6 != 0) = true := bne_iff_ne.2 hz
    clear hz
    go_wp2_with fail
    refine (marlinelaw08_speaks.calls true _ (GF_below (GF_below HG.out HB.out) HB3.out) HS.out).mono ?_
    rintro e w4 ⟨rfl, hb4⟩
    go_wp2
    go_ret
    exact ⟨rfl, below_step (below_step HB.out HB3.out) hb4⟩
  case pos =>
  have hz3 : (chk b6 != 0) = false := by rw [hz]; rfl
  clear hz
  obtain ⟨cc0, cc1, cc2, cc3, cc4, cc5, cc6⟩ := HCC.out.below HB3.out
  go_wp2_with fail
  refine (marlineref08_Check.calls c0 c1 c2 c3 c4 c5 c6 (chk c6) _ (check_r _ _ _ _ _ _ _)).mono ?_
  rintro e w4 ⟨rfl, hb4⟩
  have HB4 := Aside0.mk (below_step HB3.out hb4)
  clear hb4 cc0 cc1 cc2 cc3 cc4 cc5 cc6
  by_cases hz : chk c6 = 0
  case neg =>
    have hz1 : (chk c6 == 0) = false := beq_eq_false_iff_ne.2 hz
    have hz2 : (chk c6 != 0) = true := bne_iff_ne.2 hz
    clear hz
    go_wp2_with fail
    refine (marlinelaw08_speaks.calls true _ (GF_below (GF_below HG.out HB.out) HB4.out) HS.out).mono ?_
    rintro e w5 ⟨rfl, hb5⟩
    go_wp2
    go_ret
    exact ⟨rfl, below_step (below_step HB.out HB4.out) hb5⟩
  case pos =>
  have hz4 : (chk c6 != 0) = false := by rw [hz]; rfl
  clear hz
  have HBW4 := Aside0.mk (below_step HB.out HB4.out)
  have hl1 : w.heap.size < w4.heap.size := by have := HB4.out.size; omega
  have hl2 : w.heap.size + 1 < w4.heap.size := by have := HB4.out.size; omega
  have hl3 : w.heap.size + 1 + 1 < w4.heap.size := by have := HB4.out.size; omega
  obtain ⟨ca0, ca1, ca2, ca3, ca4, ca5, ca6⟩ := HA.out.below HB4.out
  obtain ⟨cb0, cb1, cb2, cb3, cb4, cb5, cb6⟩ := HBC.out.below HB4.out
  obtain ⟨cc0, cc1, cc2, cc3, cc4, cc5, cc6⟩ := HCC.out.below HB4.out
  go_upto_region 3 with (fail)
  go_cut [7, 8, 9] (fun v7 v8 v9 wc => ∃ x y z : Nat, v7 = .pointer (some ⟨x, 0, none⟩) ∧ v8 = .pointer (some ⟨y, 0, none⟩) ∧ v9 = .pointer (some ⟨z, 0, none⟩) ∧ Aside0 (CfgW wc x a0 a1 a2 a3 A a5 a6 ∧ CfgW wc y b0 b1 b2 b3 b4 b5 b6 ∧ CfgW wc z c0 c1 c2 c3 c4 c5 c6 ∧ x ≠ y ∧ z ≠ y ∧ w4.heap.size ≤ y ∧ Below w4.heap.size w4 wc))
  case first =>
    go_region_held3 (fun W => W.cell? ⟨w.heap.size, 0, none⟩ = some (.bool a0) ∧ W.cell? ⟨w.heap.size, 1, none⟩ = some (.bool a1) ∧ W.cell? ⟨w.heap.size, 2, none⟩ = some (.bool a2) ∧ W.cell? ⟨w.heap.size, 3, none⟩ = some (.bool a3) ∧ W.cell? ⟨w.heap.size, 4, none⟩ = some (.int .u32 (A : Int)) ∧ W.cell? ⟨w.heap.size, 5, none⟩ = some (.int .u32 a5) ∧ W.cell? ⟨w.heap.size, 6, none⟩ = some (.int .i64 a6) ∧ W.cell? ⟨w.heap.size + 1, 0, none⟩ = some (.bool b0) ∧ W.cell? ⟨w.heap.size + 1, 1, none⟩ = some (.bool b1) ∧ W.cell? ⟨w.heap.size + 1, 2, none⟩ = some (.bool b2) ∧ W.cell? ⟨w.heap.size + 1, 3, none⟩ = some (.bool b3) ∧ W.cell? ⟨w.heap.size + 1, 4, none⟩ = some (.int .u32 b4) ∧ W.cell? ⟨w.heap.size + 1, 5, none⟩ = some (.int .u32 b5) ∧ W.cell? ⟨w.heap.size + 1, 6, none⟩ = some (.int .i64 b6) ∧ W.cell? ⟨w.heap.size + 1 + 1, 0, none⟩ = some (.bool c0) ∧ W.cell? ⟨w.heap.size + 1 + 1, 1, none⟩ = some (.bool c1) ∧ W.cell? ⟨w.heap.size + 1 + 1, 2, none⟩ = some (.bool c2) ∧ W.cell? ⟨w.heap.size + 1 + 1, 3, none⟩ = some (.bool c3) ∧ W.cell? ⟨w.heap.size + 1 + 1, 4, none⟩ = some (.int .u32 c4) ∧ W.cell? ⟨w.heap.size + 1 + 1, 5, none⟩ = some (.int .u32 c5) ∧ W.cell? ⟨w.heap.size + 1 + 1, 6, none⟩ = some (.int .i64 c6))
      (exact s_three (x := w.heap.size) (y := w.heap.size + 1) (z := w.heap.size + 1 + 1) (HA.out.below HB4.out) (HBC.out.below HB4.out) (HCC.out.below HB4.out) (by repeat (first | exact Below.refl _ _ | apply below_alloc | apply below_drew | (refine Below.setCell ?_ (by simp) _))))
      (first | fail)
    all_goals (try go_wp2_with fail)
    all_goals go_meet
    all_goals (refine ⟨_, _, _, rfl, rfl, rfl, ⟨?_, ?_, ?_, ?_, ?_, ?_, below3 _ _ _ _⟩⟩ <;> first | exact CfgW.of_row (row3_0 _ _ _ _) | exact CfgW.of_row (row3_1 _ _ _ _) | exact CfgW.of_row (row3_2 _ _ _ _) | omega)
  case rest =>
    obtain ⟨x, y, z, rfl, rfl, rfl, HX⟩ := hcut
    clear ca0 ca1 ca2 ca3 ca4 ca5 ca6 cb0 cb1 cb2 cb3 cb4 cb5 cb6 cc0 cc1 cc2 cc3 cc4 cc5 cc6 hl1 hl2 hl3
    have hD : config_Default.f = some (false, false, false, false, 4294967295, 4294967295, 1500) := rfl
    have HD := Lib.hid hD
    have hK : config_Check.f false false false false 4294967295 4294967295 1500 = some 0 := check_p _ _ _ _ _ _ _
    have HK := Lib.hid hK
    have hF0 : config_Fits.f 3 false false false false 4294967295 4294967295 1500 false false false false 4294967295 4294967295 1500 = some true := by rw [fits_p 0, fitsV_default]
    have HF0 := Lib.hid hF0
    clear hD hK hF0
    go_wp2_with fail
    refine (config_Default.calls _ _ _ _ _ _ _ _ HD.out).mono ?_
    rintro e w5 ⟨rfl, hb5⟩
    have HC5 := Aside0.mk hb5
    clear hb5
    go_wp2_with fail
    refine (config_Check.calls _ _ _ _ _ _ _ _ _ HK.out).mono ?_
    rintro e w6 ⟨rfl, hb6⟩
    have HC6 := Aside0.mk (below_step HC5.out hb6)
    clear hb6
    go_wp2_with fail
    refine (config_Default.calls _ _ _ _ _ _ _ _ HD.out).mono ?_
    rintro e w7 ⟨rfl, hb7⟩
    have HC7 := Aside0.mk (below_step HC6.out hb7)
    clear hb7
    go_wp2_with fail
    refine (config_Default.calls _ _ _ _ _ _ _ _ HD.out).mono ?_
    rintro e w8 ⟨rfl, hb8⟩
    have HC8 := Aside0.mk (below_step HC7.out hb8)
    clear hb8
    go_wp2_with fail
    refine (config_Fits.calls 3 _ _ _ _ _ _ _ _ _ _ _ _ _ _ _ _ HF0.out).mono ?_
    rintro e w9 ⟨rfl, hb9⟩
    have HC9 := Aside0.mk (below_step HC8.out hb9)
    clear hb9
    obtain ⟨cx0, cx1, cx2, cx3, cx4, cx5, cx6⟩ := HX.out.1.c.below HC9.out
    have hl9 : x < w9.heap.size := World.block_lt_of_cell? w9 _ cx0
    have hF1 : config_Fits.f 3 a0 a1 a2 a3 A a5 a6 a0 a1 a2 a3 A A a6 = some true := by rw [fits_p 0, fitsV_same _ _ _ _ A a6 HAN.out]
    have HF1 := Lib.hid hF1
    clear hF1
    go_wp2_with fail
    refine (config_Fits.calls 3 _ _ _ _ _ _ _ _ _ _ _ _ _ _ _ _ HF1.out).mono ?_
    rintro e w10 ⟨rfl, hb10⟩
    have HC10 := Aside0.mk (below_then (HC9.out.alloc HC9.out.size _) (by have := HC9.out.size; simp; omega) hb10)
    clear hb10 cx0 cx1 cx2 cx3 cx4 cx5 cx6 hl9
    obtain ⟨cy0, cy1, cy2, cy3, cy4, cy5, cy6⟩ := HX.out.2.1.c.below HC10.out
    have hfy := (HX.out.2.1.below HC10.out).f
    go_upto_region 10 with (fail)
    go_cut [0] (fun v0 wd => Aside0 (Cfg wd x a0 a1 a2 a3 A a5 a6 ∧ Cfg wd y b0 b1 b2 b3 b4 b4 b6 ∧ Cfg wd z c0 c1 c2 c3 c4 c5 c6 ∧ Below w4.heap.size w4 wd))
    case first =>
      go_wp2_with fail
      go_meet
      exact ⟨(HX.out.1.c.below HC10.out).other HX.out.2.2.2.1, (HX.out.2.1.c.below HC10.out).set5, (HX.out.2.2.1.c.below HC10.out).other HX.out.2.2.2.2.1, (below_step HX.out.2.2.2.2.2.2 HC10.out).setCell HX.out.2.2.2.2.2.1 _⟩
    case rest =>
      have hx := hcut.out.1
      have hy := hcut.out.2.1
      have hz := hcut.out.2.2.1
      have HW := Aside0.mk (below_step HBW4.out hcut.out.2.2.2)
      have HX2 := Aside0.mk hx
      have HZ2 := Aside0.mk hz
      have HY2 := Aside0.mk hy
      clear hcut HX HC5 HC6 HC7 HC8 HC9 HC10 cy0 cy1 cy2 cy3 cy4 cy5 cy6 hfy
      obtain ⟨cx0, cx1, cx2, cx3, cx4, cx5, cx6⟩ := hx
      obtain ⟨cy0, cy1, cy2, cy3, cy4, cy5, cy6⟩ := hy
      clear hz
      go_wp2_with fail
      cases hf1 : fitsV a0 a1 a2 a3 A a6 b0 b1 b2 b3 b4 b6
      · have hF : config_Fits.f 3 a0 a1 a2 a3 A a5 a6 b0 b1 b2 b3 b4 b4 b6 = some false := by rw [fits_p 0, hf1]
        have HF := Lib.hid hF
        clear hF hf1
        refine (config_Fits.calls 3 _ _ _ _ _ _ _ _ _ _ _ _ _ _ _ _ HF.out).mono ?_
        rintro e w11 ⟨rfl, hb11⟩
        clear cx0 cx1 cx2 cx3 cx4 cx5 cx6 cy0 cy1 cy2 cy3 cy4 cy5 cy6
        go_wp2_with fail
        go_ret
        exact ⟨rfl, below_step HW.out hb11⟩
      · have hF : config_Fits.f 3 a0 a1 a2 a3 A a5 a6 b0 b1 b2 b3 b4 b4 b6 = some true := by rw [fits_p 0, hf1]
        have HF := Lib.hid hF
        have HE1 := Lib.hid hf1
        clear hF hf1
        refine (config_Fits.calls 3 _ _ _ _ _ _ _ _ _ _ _ _ _ _ _ _ HF.out).mono ?_
        rintro e w11 ⟨rfl, hb11⟩
        have HW11 := Aside0.mk hb11
        clear hb11 cx0 cx1 cx2 cx3 cx4 cx5 cx6 cy0 cy1 cy2 cy3 cy4 cy5 cy6
        obtain ⟨cy0, cy1, cy2, cy3, cy4, cy5, cy6⟩ := HY2.out.below HW11.out
        obtain ⟨cz0, cz1, cz2, cz3, cz4, cz5, cz6⟩ := HZ2.out.below HW11.out
        go_wp2_with fail
        cases hf2 : fitsV b0 b1 b2 b3 b4 b6 c0 c1 c2 c3 c5 c6
        · have hF : config_Fits.f 3 b0 b1 b2 b3 b4 b4 b6 c0 c1 c2 c3 c4 c5 c6 = some false := by rw [fits_p 0, hf2]
          have HF := Lib.hid hF
          clear hF hf2
          refine (config_Fits.calls 3 _ _ _ _ _ _ _ _ _ _ _ _ _ _ _ _ HF.out).mono ?_
          rintro e w12 ⟨rfl, hb12⟩
          clear cy0 cy1 cy2 cy3 cy4 cy5 cy6 cz0 cz1 cz2 cz3 cz4 cz5 cz6
          go_wp2_with fail
          go_ret
          exact ⟨rfl, below_step (below_step HW.out HW11.out) hb12⟩
        · have hF : config_Fits.f 3 b0 b1 b2 b3 b4 b4 b6 c0 c1 c2 c3 c4 c5 c6 = some true := by rw [fits_p 0, hf2]
          have HF := Lib.hid hF
          have HE2 := Lib.hid hf2
          clear hF hf2
          refine (config_Fits.calls 3 _ _ _ _ _ _ _ _ _ _ _ _ _ _ _ _ HF.out).mono ?_
          rintro e w12 ⟨rfl, hb12⟩
          have HW12 := Aside0.mk (below_step HW11.out hb12)
          clear hb12 cy0 cy1 cy2 cy3 cy4 cy5 cy6 cz0 cz1 cz2 cz3 cz4 cz5 cz6
          obtain ⟨cx0, cx1, cx2, cx3, cx4, cx5, cx6⟩ := HX2.out.below HW12.out
          obtain ⟨cz0, cz1, cz2, cz3, cz4, cz5, cz6⟩ := HZ2.out.below HW12.out
          go_wp2_with fail
          cases hf3 : fitsV a0 a1 a2 a3 A a6 c0 c1 c2 c3 c5 c6
          · obtain ⟨h0, hne⟩ := fits_on _ _ _ _ _ _ _ _ _ _ _ _ _ _ _ _ _ _ HE1.out HE2.out hf3
            have hL : marlinelaw08_fits.f a0 a1 a2 a3 A a5 a6 c0 c1 c2 c3 c4 c5 c6 = some true := by
              unfold marlinelaw08_fits.f
              rw [h0, if_neg (by simp), hne]
            have HL := Lib.hid hL
            clear hL h0 hne hf3
            refine (marlinelaw08_fits.calls _ _ _ _ _ _ _ _ _ _ _ _ _ _ _ _ HL.out).mono ?_
            rintro e w13 ⟨rfl, hb13⟩
            clear cx0 cx1 cx2 cx3 cx4 cx5 cx6 cz0 cz1 cz2 cz3 cz4 cz5 cz6
            go_wp2_with fail
            go_ret
            exact ⟨rfl, below_step (below_step HW.out HW12.out) hb13⟩
          · have hF : config_Fits.f 3 a0 a1 a2 a3 A a5 a6 c0 c1 c2 c3 c4 c5 c6 = some true := by rw [fits_p 0, hf3]
            have HF := Lib.hid hF
            obtain ⟨lr, hL⟩ : ∃ lr, marlinelaw08_fits.f a0 a1 a2 a3 A a5 a6 c0 c1 c2 c3 c4 c5 c6 = some lr := by
              unfold marlinelaw08_fits.f; split <;> exact ⟨_, rfl⟩
            have HL := Lib.hid hL
            clear hL hF hf3
            refine (marlinelaw08_fits.calls _ _ _ _ _ _ _ _ _ _ _ _ _ _ _ _ HL.out).mono ?_
            rintro e w13 ⟨rfl, hb13⟩
            have HW13 := Aside0.mk (below_step HW12.out hb13)
            clear hb13 cx0 cx1 cx2 cx3 cx4 cx5 cx6 cz0 cz1 cz2 cz3 cz4 cz5 cz6
            cases lr
            · obtain ⟨cx0, cx1, cx2, cx3, cx4, cx5, cx6⟩ := HX2.out.below HW13.out
              obtain ⟨cz0, cz1, cz2, cz3, cz4, cz5, cz6⟩ := HZ2.out.below HW13.out
              go_wp2_with fail
              refine (config_Fits.calls 3 _ _ _ _ _ _ _ _ _ _ _ _ _ _ _ _ HF.out).mono ?_
              rintro e w14 ⟨rfl, hb14⟩
              clear cx0 cx1 cx2 cx3 cx4 cx5 cx6 cz0 cz1 cz2 cz3 cz4 cz5 cz6
              go_wp2_with fail
              go_ret
              exact ⟨rfl, below_step (below_step HW.out HW13.out) hb14⟩
            · go_wp2_with fail
              go_ret
              exact ⟨rfl, below_step HW.out HW13.out⟩

theorem fits_holds (a0 a1 a2 a3 : Bool) (a4 a5 a6 : Int) (b0 b1 b2 b3 : Bool) (b4 b5 b6 : Int) (c0 c1 c2 c3 : Bool) (c4 c5 c6 : Int) (w : World) (hgF : GF w)
    (h04 : 0 ≤ a4 ∧ a4 < 4294967296) (h05 : 0 ≤ a5 ∧ a5 < 4294967296) (h06 : -9223372036854775808 ≤ a6 ∧ a6 ≤ 9223372036854775807)
    (h14 : 0 ≤ b4 ∧ b4 < 4294967296) (h15 : 0 ≤ b5 ∧ b5 < 4294967296) (h16 : -9223372036854775808 ≤ b6 ∧ b6 ≤ 9223372036854775807)
    (h24 : 0 ≤ c4 ∧ c4 < 4294967296) (h25 : 0 ≤ c5 ∧ c5 < 4294967296) (h26 : -9223372036854775808 ≤ c6 ∧ c6 ≤ 9223372036854775807) :
    Calls Tryd.prog 4 #[.agg #[.bool a0, .bool a1, .bool a2, .bool a3, .int .u32 a4, .int .u32 a5, .int .i64 a6], .agg #[.bool b0, .bool b1, .bool b2, .bool b3, .int .u32 b4, .int .u32 b5, .int .i64 b6], .agg #[.bool c0, .bool c1, .bool c2, .bool c3, .int .u32 c4, .int .u32 c5, .int .i64 c6]] w fun e w' => e = .returned (.bool true) ∧ Below w.heap.size w w' :=
  fits_walk a0 a1 a2 a3 a4 a5 a6 b0 b1 b2 b3 b4 b5 b6 c0 c1 c2 c3 c4 c5 c6 w hgF h04
end Go.Proofs.YtggpejjfgphihaaDoor.Wk
