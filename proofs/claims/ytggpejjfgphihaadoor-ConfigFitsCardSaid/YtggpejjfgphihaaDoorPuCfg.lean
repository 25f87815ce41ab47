/- The plain law of layer 8: what the program's config functions compute is what the reference's compute. -/
import Derived.Test.YtggpejjfgphihaaDoorCx1
import Derived.Test.YtggpejjfgphihaaDoorCx2
import Derived.Test.YtggpejjfgphihaaDoorCx3
import Derived.Test.YtggpejjfgphihaaDoorCx4
import Derived.Test.YtggpejjfgphihaaDoorBits
namespace Go.Proofs.YtggpejjfgphihaaDoor.Pu
open Go.Proofs.YtggpejjfgphihaaDoor.Given Go.Proofs.YtggpejjfgphihaaDoor.C Go.RowKit Go.Proofs.YtggpejjfgphihaaDoorW.PrintWords

theorem speaks08 : marlinelaw08_speaks.f = some true := by
  simp [marlinelaw08_speaks.f, config_Default.f, config_Most.f, fcs_Size.f, fcs_of.f, wrap64]
def chk (m : Int) : Int := if m < 64 then 5 else if m > 65535 then 5 else 0
theorem check_p (a0 a1 a2 a3 : Bool) (a4 a5 a6 : Int) : config_Check.f a0 a1 a2 a3 a4 a5 a6 = some (chk a6) := by
  unfold config_Check.f chk; split <;> (try split) <;> rfl
theorem check_r (a0 a1 a2 a3 : Bool) (a4 a5 a6 : Int) : marlineref08_Check.f a0 a1 a2 a3 a4 a5 a6 = some (chk a6) := by
  unfold marlineref08_Check.f chk; split <;> (try split) <;> rfl
theorem chk_zero {m : Int} (h : chk m = 0) : 64 ≤ m ∧ m ≤ 65535 := by
  unfold chk at h
  split at h
  · cases h
  · split at h
    · cases h
    · omega
theorem chk_of {m : Int} (h1 : 64 ≤ m) (h2 : m ≤ 65535) : chk m = 0 := by
  unfold chk; rw [if_neg (by omega), if_neg (by omega)]
def mostV (a1 : Bool) (a6 : Int) : Int := if a1 = true then a6 + 8 else a6 + 6
theorem most_p (a0 a1 a2 a3 : Bool) (a4 a5 a6 : Int) (h1 : 64 ≤ a6) (h2 : a6 ≤ 65535) : config_Most.f a0 a1 a2 a3 a4 a5 a6 = some (mostV a1 a6) := by
  cases a1 <;> simp [config_Most.f, fcs_Size.f, fcs_of.f, mostV, wrap64] <;> omega
theorem most_r (a0 a1 a2 a3 : Bool) (a4 a5 a6 : Int) (h1 : 64 ≤ a6) (h2 : a6 ≤ 65535) : marlineref08_Most.f a0 a1 a2 a3 a4 a5 a6 = some (mostV a1 a6) := by
  cases a1 <;> simp [marlineref08_Most.f, mostV, wrap64] <;> omega

/-- the bits of one map lie in another -/
def within (m s : Int) : Bool := (Go.bits .andNot .u32 m s) == 0
def fitsV (a0 a1 a2 a3 : Bool) (a4 a6 : Int) (b0 b1 b2 b3 : Bool) (b5 b6 : Int) : Bool :=
  (a0 == b0) && (a1 == b1) && (!a2 || b2) && (!a3 || b3) && (a0 || within b5 a4) && decide (a6 ≤ b6)
theorem fits_p (k : Nat) (a0 a1 a2 a3 : Bool) (a4 a5 a6 : Int) (b0 b1 b2 b3 : Bool) (b4 b5 b6 : Int) :
    config_Fits.f (k + 3) a0 a1 a2 a3 a4 a5 a6 b0 b1 b2 b3 b4 b5 b6 = some (fitsV a0 a1 a2 a3 a4 a6 b0 b1 b2 b3 b5 b6) := by
  by_cases h : a6 ≤ b6
  · have h' : ¬ b6 < a6 := by omega
    cases hw : within b5 a4 <;> cases a0 <;> cases a1 <;> cases a2 <;> cases a3 <;> cases b0 <;> cases b1 <;> cases b2 <;> cases b3 <;>
      simp [config_Fits.f, config_Fits.j0, config_Fits.j1, config_Fits.j2, fitsV, accm_Within.f, h, h', hw, show ((Go.bits .andNot .u32 b5 a4) == 0) = within b5 a4 from rfl]
  · have h' : b6 < a6 := by omega
    cases hw : within b5 a4 <;> cases a0 <;> cases a1 <;> cases a2 <;> cases a3 <;> cases b0 <;> cases b1 <;> cases b2 <;> cases b3 <;>
      simp [config_Fits.f, config_Fits.j0, config_Fits.j1, config_Fits.j2, fitsV, accm_Within.f, h, h', hw, show ((Go.bits .andNot .u32 b5 a4) == 0) = within b5 a4 from rfl]

theorem has_l (c : Nat) (hc : c < 32) (d : Nat) : ∀ (k i m : Nat), i + d = c → d < k → m < 4294967296 → marlineref03_Has.l0 k (m : Int) (c : Int) (i : Int) = some (decide (m / 2 ^ d % 2 = 1)) := by
  induction d with
  | zero =>
    intro k i m hi hk hm
    obtain ⟨k, rfl⟩ : ∃ j, k = j + 1 := ⟨k - 1, by omega⟩
    simp only [marlineref03_Has.l0]
    rw [if_neg (by omega)]
    have e : Int.tmod (m : Int) 2 = ((m % 2 : Nat) : Int) := by rw [Int.tmod_eq_emod_of_nonneg (by omega)]; omega
    rw [e]
    congr 1
    rw [Bool.eq_iff_iff]
    simp
    omega
  | succ d ih =>
    intro k i m hi hk hm
    obtain ⟨k, rfl⟩ : ∃ j, k = j + 1 := ⟨k - 1, by omega⟩
    simp only [marlineref03_Has.l0]
    rw [if_pos (by omega)]
    have e : (Int.tdiv (m : Int) 2) % 4294967296 = ((m / 2 : Nat) : Int) := by rw [Int.tdiv_eq_ediv_of_nonneg (by omega)]; omega
    have e2 : ((i : Int) + 1) % 256 = ((i + 1 : Nat) : Int) := by omega
    rw [e, e2, ih k (i + 1) (m / 2) (by omega) (by omega) (by omega), Nat.div_div_eq_div_mul]
    have : 2 * 2 ^ d = 2 ^ (d + 1) := by rw [Nat.pow_succ]; omega
    rw [this]
theorem has_r (k c m : Nat) (hc : c < 32) (hk : c < k) (hm : m < 4294967296) : marlineref03_Has.f k (m : Int) (c : Int) = some (m.testBit c) := by
  unfold marlineref03_Has.f
  rw [if_neg (by omega)]
  have := has_l c hc c k 0 m (by omega) hk hm
  rw [show ((0 : Nat) : Int) = 0 from rfl] at this
  rw [this, Nat.testBit_eq_decide_div_mod_eq]

/-- do the first n bits lie within? -/
def withinN (m s : Nat) : Nat → Nat → Bool
  | _, 0 => true
  | i, n + 1 => (!m.testBit i || s.testBit i) && withinN m s (i + 1) n
theorem fits_l (a0 a1 a2 a3 : Bool) (A : Nat) (a5 a6 : Int) (b0 b1 b2 b3 : Bool) (b4 : Int) (R : Nat) (b6 : Int) (hA : A < 4294967296) (hR : R < 4294967296) (d : Nat) :
    ∀ (k i : Nat), i + d = 32 → d + 32 < k → marlineref08_Fits.l0 k (i : Int) a0 a1 a2 a3 (A : Int) a5 a6 b0 b1 b2 b3 b4 (R : Int) b6 = some (a0 || withinN R A i d) := by
  induction d with
  | zero =>
    intro k i hi hk
    obtain ⟨k, rfl⟩ : ∃ j, k = j + 1 := ⟨k - 1, by omega⟩
    simp only [marlineref08_Fits.l0]
    rw [if_neg (by omega)]
    cases a0 <;> rfl
  | succ d ih =>
    intro k i hi hk
    obtain ⟨k, rfl⟩ : ∃ j, k = j + 1 := ⟨k - 1, by omega⟩
    simp only [marlineref08_Fits.l0]
    rw [if_pos (by omega)]
    have e2 : ((i : Int) + 1) % 256 = ((i + 1 : Nat) : Int) := by omega
    rw [e2, ih k (i + 1) (by omega) (by omega)]
    cases a0
    · simp only [Bool.false_eq_true, if_false]
      rw [has_r k i R (by omega) (by omega) hR, has_r k i A (by omega) (by omega) hA]
      simp only [Option.bind_some, withinN]
      cases R.testBit i <;> cases A.testBit i <;> simp
    · simp
theorem withinN_iff (m s : Nat) (n : Nat) : ∀ i, withinN m s i n = true ↔ ∀ j, i ≤ j → j < i + n → m.testBit j = true → s.testBit j = true := by
  induction n with
  | zero => intro i; simp [withinN]; omega
  | succ n ih =>
    intro i
    simp only [withinN, Bool.and_eq_true, ih, Bool.or_eq_true, Bool.not_eq_true']
    constructor
    · rintro ⟨h1, h2⟩ j hj1 hj2 hm
      by_cases e : j = i
      · subst e; rcases h1 with h1 | h1
        · rw [hm] at h1; cases h1
        · exact h1
      · exact h2 j (by omega) (by omega) hm
    · intro h
      refine ⟨?_, fun j h1 h2 => h j (by omega) (by omega)⟩
      cases e : m.testBit i
      · exact .inl rfl
      · exact .inr (h i (by omega) (by omega) e)
theorem within_eq (m s : Nat) (hm : m < 4294967296) (hs : s < 4294967296) : within (m : Int) (s : Int) = withinN m s 0 32 := by
  have hm' : m < 2 ^ 32 := hm
  have hs' : s < 2 ^ 32 := hs
  rw [Bool.eq_iff_iff, withinN_iff]
  unfold within
  rw [beq_iff_eq]
  simp only [Go.bits, BitVec.ofInt_natCast]
  have hb : (IntKind.u32).bits = 32 := rfl
  have hlt := ((BitVec.ofNat (IntKind.u32).bits m) &&& ~~~(BitVec.ofNat (IntKind.u32).bits s)).isLt
  rw [wrap_u32_nat _ (by simpa [hb] using hlt)]
  constructor
  · intro h j _ hj hmj
    have h0 : (BitVec.ofNat (IntKind.u32).bits m &&& ~~~(BitVec.ofNat (IntKind.u32).bits s)).toNat = 0 := by exact_mod_cast h
    have h1 := congrArg (·.testBit j) h0
    simp only [Nat.zero_testBit] at h1
    have h2 : (BitVec.ofNat (IntKind.u32).bits m &&& ~~~(BitVec.ofNat (IntKind.u32).bits s)).getLsbD j = false := h1
    rw [BitVec.getLsbD_and, BitVec.getLsbD_not, BitVec.getLsbD_ofNat, BitVec.getLsbD_ofNat] at h2
    simp [hb] at h2
    have := h2 (by omega) hmj (by omega)
    exact this.2
  · intro h
    have h0 : (BitVec.ofNat (IntKind.u32).bits m &&& ~~~(BitVec.ofNat (IntKind.u32).bits s)) = 0 := by
      apply BitVec.eq_of_getLsbD_eq
      intro j hj
      rw [BitVec.getLsbD_and, BitVec.getLsbD_not, BitVec.getLsbD_ofNat, BitVec.getLsbD_ofNat]
      have hj' : j < 32 := hj
      cases e : m.testBit j
      · simp
      · have := h j (by omega) (by omega) e
        simp [this, hb, hj']
    rw [h0]; rfl
theorem fits_r (k : Nat) (a0 a1 a2 a3 : Bool) (A : Nat) (a5 a6 : Int) (b0 b1 b2 b3 : Bool) (b4 : Int) (R : Nat) (b6 : Int) (hA : A < 4294967296) (hR : R < 4294967296) :
    marlineref08_Fits.f (k + 70) a0 a1 a2 a3 (A : Int) a5 a6 b0 b1 b2 b3 b4 (R : Int) b6 = some (fitsV a0 a1 a2 a3 (A : Int) a6 b0 b1 b2 b3 (R : Int) b6) := by
  have hl := fits_l a0 a1 a2 a3 A a5 a6 b0 b1 b2 b3 b4 R b6 hA hR 32 (k + 69) 0 (by omega) (by omega)
  rw [← within_eq R A hR hA, show ((0 : Nat) : Int) = 0 from rfl] at hl
  have j0t : ∀ x, marlineref08_Fits.j0 (k + 70) x a0 a1 a2 a3 (A : Int) a5 a6 b0 b1 b2 b3 b4 (R : Int) b6 = if x = true then some false else some (a0 || within (R : Int) (A : Int)) := by
    intro x; simp only [marlineref08_Fits.j0]; rw [hl]
  unfold marlineref08_Fits.f
  simp only [j0t, fitsV]
  by_cases h : a6 ≤ b6
  · have h' : ¬ b6 < a6 := by omega
    cases a0 <;> cases a1 <;> cases a2 <;> cases a3 <;> cases b0 <;> cases b1 <;> cases b2 <;> cases b3 <;> simp [h, h']
  · have h' : b6 < a6 := by omega
    cases a0 <;> cases a1 <;> cases a2 <;> cases a3 <;> cases b0 <;> cases b1 <;> cases b2 <;> cases b3 <;> simp [h, h']
end Go.Proofs.YtggpejjfgphihaaDoor.Pu
