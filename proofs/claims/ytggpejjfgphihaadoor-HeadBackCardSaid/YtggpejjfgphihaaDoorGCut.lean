/- bytes.CutPrefix, by hand: what stands behind a prefix, or all; it reads as the list that came in. -/
import Derived.Test.YtggpejjfgphihaaDoorHx1
namespace Go.Proofs.YtggpejjfgphihaaDoor.Given
open Go.RowKit Go.Proofs.YtggpejjfgphihaaDoorW.PrintWords Go.Proofs.YtggpejjfgphihaaDoorW.PrintLast Go.Proofs.YtggpejjfgphihaaDoorW.PrintMore
open Go.Proofs.YtggpejjfgphihaaDoor.H
set_option linter.unusedVariables false
set_option linter.unusedSimpArgs false

def cutOf (has : Bool) (l0 l1 : List Int) : List Int := if has = true then l0.drop l1.length else l0
theorem prefix_le {l0 l1 : List Int} (h : bytes_HasPrefix.f l0 l1 = some true) : l1.length ≤ l0.length := by
  unfold bytes_HasPrefix.f at h
  by_cases hg : (l1.length : Int) ≤ (l0.length : Int)
  · omega
  · exfalso
    revert h
    simp [hg]
set_option maxHeartbeats 2000000 in
set_option maxRecDepth 100000 in
theorem cutPrefix_calls (A0 : Option Addr) (c0 : Nat) (l0 : List Int) (A1 : Option Addr) (c1 : Nat) (l1 : List Int) (has : Bool) (w : World) (hr0 : Kd.C (Kd.int .u8) w A0 l0.length l0) (hc0 : l0.length ≤ c0) (hr1 : Kd.C (Kd.int .u8) w A1 l1.length l1) (hc1 : l1.length ≤ c1)
    (h : bytes_HasPrefix.f l0 l1 = some has) :
    Calls Tryd.prog 57 #[.slice A0 l0.length c0, .slice A1 l1.length c1] w fun e w' => ∃ (A' : Option Addr) (c' : Nat), e = .returned (.tuple #[.slice A' (cutOf has l0 l1).length c', .bool has]) ∧ Drawn0 w w' ∧ Kd.C (Kd.int .u8) w A' (cutOf has l0 l1).length (cutOf has l0 l1) ∧ (cutOf has l0 l1).length ≤ c' := by
  have HR0 := Aside0.mk hr0
  have HR1 := Aside0.mk hr1
  have HC0 := Aside0.mk hc0
  have HC1 := Aside0.mk hc1
  have HH := Aside0.mk h
  clear hr0 hr1 hc0 hc1
  cases has with
  | true =>
    have hle := prefix_le h
    clear h
    obtain ⟨i0, hi0, _, hsz, _⟩ := info_parts info5
    obtain ⟨A', hcut, hA, hC⟩ := print_drop_of (P := Tryd.prog) (Value.int .u8) 0 35 5 .i64 Tryd.underlying35 hi0 hsz A0 c0 l0 (l1.length : Int) (by omega) (by omega) HC0.out
    have hRA := Kd.C_of_reads (h1 := fun _ => rfl) (hA _ (Kd.reads_of_C HR0.out))
    rw [Int.toNat_natCast] at hcut hC hRA
    obtain ⟨m, hm⟩ : ∃ m : List Int, m = l0.drop l1.length := ⟨_, rfl⟩
    have hmo : cutOf true l0 l1 = m := by rw [hm]; rfl
    rw [← hm] at hcut hC hRA
    rw [hmo]
    have HRA := Aside0.mk hRA
    have HCA := Aside0.mk hC
    clear hA hC hRA hm hmo hi0 hsz hle
    go_enter Tryd.func57, Tryd.ntmps57
    go_wp2_with fail
    refine (bytes_HasPrefix.calls A0 c0 l0 A1 c1 l1 true _ HR0.out HC0.out HR1.out HC1.out HH.out).mono ?_
    rintro e w' ⟨rfl, ⟨nd, rfl⟩⟩
    go_wp2_with fail
    go_ret2
    exact ⟨_, _, rfl, ⟨_, rfl⟩, HRA.out, HCA.out⟩
  | false =>
    clear h
    go_enter Tryd.func57, Tryd.ntmps57
    go_wp2_with fail
    refine (bytes_HasPrefix.calls A0 c0 l0 A1 c1 l1 false _ HR0.out HC0.out HR1.out HC1.out HH.out).mono ?_
    rintro e w' ⟨rfl, ⟨nd, rfl⟩⟩
    go_wp2_with fail
    go_ret2
    exact ⟨_, _, rfl, ⟨_, rfl⟩, HR0.out, HC0.out⟩
end Go.Proofs.YtggpejjfgphihaaDoor.Given
