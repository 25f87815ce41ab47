/- The statement FcsBursts, plainly. -/
import Derived.Test.YtggpejjfgphihaaDoorPuFcs2
namespace Go.Proofs.YtggpejjfgphihaaDoor.Pu
open Go.RowKit Go.Proofs.YtggpejjfgphihaaDoorW.PrintWords Go.Proofs.YtggpejjfgphihaaDoorW.PrintLast Go.Proofs.YtggpejjfgphihaaDoorW.PrintMore
open Go.Proofs.YtggpejjfgphihaaDoor.Given Go.Proofs.YtggpejjfgphihaaDoor.Crc Go.Proofs.YtggpejjfgphihaaDoor.D
set_option linter.unusedVariables false

theorem le_set (l : List Nat) : ∀ (q r : Nat) (h : q < l.length), le (l.set q (l[q] ^^^ 2 ^ r)) = le l ^^^ 2 ^ (8 * q + r) := by
  induction l with
  | nil => intro q r h; simp at h
  | cons c l ih =>
    intro q r h
    cases q with
    | zero =>
      simp only [List.set_cons_zero, List.getElem_cons_zero, le, Nat.mul_zero, Nat.zero_add]
      ac_rfl
    | succ q =>
      simp only [List.set_cons_succ, List.getElem_cons_succ, le]
      rw [ih q r (by simpa using h), mul256_xor, Nat.xor_assoc]
      congr 2
      rw [show 8 * (q + 1) + r = 8 + (8 * q + r) by omega, Nat.pow_add 2 8]
theorem two_mul_xor (f a b : Nat) : 2 ^ f * (a ^^^ b) = 2 ^ f * a ^^^ 2 ^ f * b := by
  have h := Nat.shiftLeft_xor_distrib (a := a) (b := b) (i := f)
  simp only [Nat.shiftLeft_eq] at h
  rw [Nat.mul_comm, Nat.mul_comm _ a, Nat.mul_comm _ b]
  exact h
theorem xor_top (m i : Nat) (h : m < 2 ^ i) : m ^^^ 2 ^ i = m + 2 ^ i := by
  have h1 := Nat.two_pow_add_eq_or_of_lt h 1
  rw [Nat.mul_one] at h1
  rw [Nat.add_comm, h1]
  apply Nat.eq_of_testBit_eq
  intro j
  rw [Nat.testBit_xor, Nat.testBit_or, Nat.testBit_two_pow]
  by_cases hj : i = j
  · subst hj
    rw [Nat.testBit_lt_two_pow h]; simp
  · simp [hj]
theorem mod_step (p i : Nat) : p % 2 ^ (i + 1) = p % 2 ^ i + 2 ^ i * (p / 2 ^ i % 2) := by
  rw [Nat.pow_succ, Nat.mod_mul]
/-- the burst: which bits are turned when i of the 32 are through -/
def burst (p d i : Nat) : Nat := p % 2 ^ (min i d)
theorem burst_end (p d i : Nat) (h : d ≤ i) : burst p d (i + 1) = burst p d i := by
  unfold burst; rw [Nat.min_eq_right h, Nat.min_eq_right (by omega)]
theorem burst_zero (p d i : Nat) (h : p / 2 ^ i % 2 = 0) : burst p d (i + 1) = burst p d i := by
  by_cases hd : d ≤ i
  · exact burst_end p d i hd
  · unfold burst
    rw [Nat.min_eq_left (by omega), Nat.min_eq_left (by omega), mod_step, h, Nat.mul_zero, Nat.add_zero]
theorem burst_one (p d i : Nat) (h : p / 2 ^ i % 2 = 1) (hd : i < d) : burst p d (i + 1) = burst p d i ^^^ 2 ^ i ∧ burst p d (i + 1) ≠ 0 := by
  unfold burst
  rw [Nat.min_eq_left (by omega), Nat.min_eq_left (by omega), mod_step, h, Nat.mul_one, xor_top _ _ (Nat.mod_lt _ (Nat.two_pow_pos i))]
  exact ⟨rfl, by have := Nat.two_pow_pos i; omega⟩
theorem bits_and_u32_one (x : Nat) (h : x < 4294967296) : Go.bits .and .u32 (x : Int) 1 = ((x % 2 : Nat) : Int) := and_u32_one x h
theorem shr_plain (x i : Nat) (hi : i ≤ 32) : shr .u32 (x : Int) (i : Int) = ((x / 2 ^ i : Nat) : Int) := by
  unfold shr
  have : min (i : Int).toNat IntKind.u32.bits = i := by simp only [Int.toNat_natCast, IntKind.bits]; omega
  rw [this, show ((2 : Int) ^ i) = ((2 ^ i : Nat) : Int) by simp]; exact rfl
theorem shl_plain (r : Nat) (h : r < 8) : shl .u8 1 (r : Int) = ((2 ^ r : Nat) : Int) := by
  match r, h with
  | 0, _ => rfl
  | 1, _ => rfl
  | 2, _ => rfl
  | 3, _ => rfl
  | 4, _ => rfl
  | 5, _ => rfl
  | 6, _ => rfl
  | 7, _ => rfl
  | r + 8, h => omega
theorem set_lt (l : List Nat) (q v : Nat) (hl : ∀ x ∈ l, x < 256) (hv : v < 256) : ∀ x ∈ l.set q v, x < 256 := by
  intro x hx
  rcases List.mem_or_eq_of_mem_set hx with h | rfl
  · exact hl x h
  · exact hv
theorem good_burst (a0 : Bool) (A : List Nat) (hA : ∀ x ∈ A, x < 256) (L : List Nat) (hL : ∀ x ∈ L, x < 256) (hn : L.length = A.length + sizeN a0) (first m : Nat) (hf : first ≤ 8 * L.length) (hm : m < widthOf a0)
    (he : le L = le (A ++ trailerN a0 A) ^^^ 2 ^ first * m) : goodB a0 L = decide (m = 0) := by
  have hg := more_good a0 A hA
  have hl : (A ++ trailerN a0 A).length = L.length := by rw [List.length_append, trailerN_length, hn]
  rw [more_eq, hl] at hg
  unfold goodB
  rw [more_eq, he, ← Nat.xor_assoc, it_xor, hg, it_pow' _ _ _ _ hf]
  have hsz : sizeN a0 ≤ L.length := by omega
  rw [show decide (sizeN a0 ≤ L.length) = true from decide_eq_true hsz, Bool.true_and]
  rw [Bool.eq_iff_iff, decide_eq_true_iff, decide_eq_true_iff]
  constructor
  · intro h
    have h0 : it (polyOf a0) (8 * L.length - first) m = 0 := by
      have := congrArg (goodN a0 ^^^ ·) h
      simpa [← Nat.xor_assoc] using this
    exact it_eq_zero _ (poly_bounds a0).1 (poly_bounds a0).2 (by rw [← width_pow']; exact hm) h0
  · rintro rfl
    rw [it_zero, Nat.xor_zero]
theorem steps_1 (i : Nat) (h : i < 1000) : wrap64 ((i : Int) + 1) = ((i + 1 : Nat) : Int) := w64 (i + 1) (by omega)
theorem steps_2 (f i : Nat) (h : f + i < 10000000) : wrap64 ((f : Int) + (i : Int)) = ((f + i : Nat) : Int) := w64 (f + i) (by omega)
theorem steps_3 (n : Nat) (h : n < 1000000) : wrap64 (8 * (n : Int)) = ((8 * n : Nat) : Int) := w64 (8 * n) (by omega)
theorem steps_4 (x : Nat) (h : x < 10000000) : wrap64 (Int.tdiv ((x : Nat) : Int) 8) = ((x / 8 : Nat) : Int) := w64 (x / 8) (by omega)
theorem bursts_go (a0 : Bool) (A : List Nat) (hA : ∀ x ∈ A, x < 256) (n first p : Nat) (hn : n = A.length + sizeN a0) (hnb : n < 1000) (hf : first < 8 * n) (hp : p < widthOf a0) :
    ∀ (m i k : Nat) (L : List Nat), i + m = 32 → (∀ x ∈ L, x < 256) → L.length = n → le L = le (A ++ trailerN a0 A) ^^^ 2 ^ first * burst p (8 * n - first) i →
    marlinelaw02_FcsBursts.l0 (k + m + 1) a0 (p : Int) (ofN L) (first : Int) (decide (burst p (8 * n - first) i ≠ 0)) (i : Int) = some true := by
  intro m
  have hp32 : p < 4294967296 := Nat.lt_of_lt_of_le hp (width_le a0).2
  induction m with
  | zero =>
    intro i k L hi hL hl he
    rw [marlinelaw02_FcsBursts.l0, if_neg (by omega), f_Good a0 L hL, Option.bind_some]
    have hb : burst p (8 * n - first) i < widthOf a0 := Nat.lt_of_le_of_lt (Nat.mod_le _ _) hp
    rw [good_burst a0 A hA L hL (by rw [hl, hn]) first _ (by rw [hl]; omega) hb he]
    by_cases h : burst p (8 * n - first) i = 0 <;> simp [h]
  | succ m ih =>
    intro i k L hi hL hl he
    have hi' : i < 32 := by clear he; omega
    have hfn : first + i < 8 * n + 32 := by clear he; omega
    have hi1 : i < 1000 := by clear he; omega
    have hfi : first + i < 10000000 := by clear he; omega
    have hn1 : n < 1000000 := by clear he; omega
    rw [show k + (m + 1) + 1 = (k + m + 1) + 1 by omega, marlinelaw02_FcsBursts.l0, if_pos (by omega), if_pos (by omega)]
    have hq : p / 2 ^ i < 4294967296 := Nat.lt_of_le_of_lt (Nat.div_le_self _ _) hp32
    rw [shr_plain p i (by omega), bits_and_u32_one _ hq, ofN_length, hl]
    rw [steps_1 i hi1, steps_2 first i hfi, steps_3 n hn1, steps_4 (first + i) hfi, show Int.tmod ((first + i : Nat) : Int) 8 = (((first + i) % 8 : Nat) : Int) from tmodN _ 8]
    by_cases h : p / 2 ^ i % 2 = 1
    · rw [if_pos (by omega)]
      by_cases h2 : first + i < 8 * n
      · have hq2 : (first + i) / 8 < L.length := by omega
        have hc := hL _ (List.getElem_mem hq2)
        have hr8 : (first + i) % 8 < 8 := Nat.mod_lt _ (by decide)
        have h2r : 2 ^ ((first + i) % 8) < 256 := by
          have := Nat.pow_lt_pow_right (a := 2) (by decide) hr8
          exact this
        rw [if_pos (by omega), if_pos (by omega), if_pos (by omega), if_pos (by omega), ofN_rd L _ hq2, shl_plain _ hr8, xor_u8 _ _ (by omega) h2r, Int.toNat_natCast]
        obtain ⟨b1, b2⟩ := burst_one p (8 * n - first) i h (by omega)
        have es : (ofN L).set ((first + i) / 8) ((L[(first + i) / 8] ^^^ 2 ^ ((first + i) % 8) : Nat) : Int) = ofN (L.set ((first + i) / 8) (L[(first + i) / 8] ^^^ 2 ^ ((first + i) % 8))) := by simp only [ofN]; rw [List.map_set]
        rw [es]
        have := ih (i + 1) k (L.set ((first + i) / 8) (L[(first + i) / 8] ^^^ 2 ^ ((first + i) % 8))) (by omega) (set_lt _ _ _ hL (Nat.xor_lt_two_pow (n := 8) hc h2r)) (by rw [List.length_set, hl]) (by
          rw [le_set L _ _ hq2, he, b1, two_mul_xor, Nat.xor_assoc, show 8 * ((first + i) / 8) + (first + i) % 8 = first + i by omega, Nat.pow_add])
        rw [show decide (burst p (8 * n - first) (i + 1) ≠ 0) = true from decide_eq_true b2] at this
        exact this
      · rw [if_neg (by omega)]
        have hb := burst_end p (8 * n - first) i (by omega)
        rw [← hb]
        exact ih (i + 1) k L (by omega) hL hl (by rw [hb]; exact he)
    · rw [if_neg (by omega)]
      have hb := burst_zero p (8 * n - first) i (by omega)
      rw [← hb]
      exact ih (i + 1) k L (by omega) hL hl (by rw [hb]; exact he)
theorem bursts_two (a0 : Bool) (A : List Nat) (hA : ∀ x ∈ A, x < 256) (hl : A.length ≤ 400) (p a : Nat) (hp : p < widthOf a0) (ha : a < 65536) (k : Nat) (hk : 40 ≤ k) :
    marlinelaw02_FcsBursts.j1 (k + 1) a0 (a : Int) (p : Int) (ofN (A ++ trailerN a0 A)) = some true := by
  have hsz : 2 ≤ sizeN a0 ∧ sizeN a0 ≤ 4 := by cases a0 <;> decide
  have hn : (A ++ trailerN a0 A).length = A.length + sizeN a0 := by rw [List.length_append, trailerN_length]
  have hall : ∀ x ∈ A ++ trailerN a0 A, x < 256 := by
    intro x hx
    rcases List.mem_append.1 hx with hx | hx
    · exact hA x hx
    · exact trailerN_lt a0 A x hx
  rw [marlinelaw02_FcsBursts.j1, ofN_length, hn]
  have e1 : wrap64 (8 * ((A.length + sizeN a0 : Nat) : Int)) = ((8 * (A.length + sizeN a0) : Nat) : Int) := by unfold wrap64; omega
  have e2 : wrap64 (a : Int) = (a : Int) := by unfold wrap64; omega
  rw [e1, e2, if_neg (by omega), tmodN]
  have hlt := Nat.mod_lt a (show 8 * (A.length + sizeN a0) > 0 by omega)
  have := bursts_go a0 A hA (A.length + sizeN a0) (a % (8 * (A.length + sizeN a0))) p rfl (by omega) hlt hp 32 0 (k - 33) (A ++ trailerN a0 A) (by omega) hall hn (by
    unfold burst; simp [Nat.mod_one])
  rw [show k - 33 + 32 + 1 = k by omega] at this
  have hb0 : burst p (8 * (A.length + sizeN a0) - a % (8 * (A.length + sizeN a0))) 0 = 0 := by unfold burst; simp [Nat.mod_one]
  rw [hb0] at this
  simpa using this
theorem fcsBursts_f (l : List Int) (hl : l.all okByte = true) (a0 : Bool) (a p : Int) (ha : 0 ≤ a ∧ a < 65536) (hp : 0 ≤ p ∧ p < 4294967296) : marlinelaw02_FcsBursts.f 600 l a0 a p = some true := by
  rw [ofN_of hl]
  have hB := bytes_of hl
  generalize l.map Int.toNat = B at *
  obtain ⟨T, rfl⟩ := Int.eq_ofNat_of_zero_le ha.1
  obtain ⟨R, rfl⟩ := Int.eq_ofNat_of_zero_le hp.1
  unfold marlinelaw02_FcsBursts.f
  rw [show marlinelaw02_speaks.f = some true from rfl, Option.bind_some, if_pos rfl, marlinelaw02_FcsBursts.j0, ofN_length]
  by_cases h : B.length > 400
  · rw [if_pos (by simp; omega)]; rfl
  · have hsz : 2 ≤ sizeN a0 ∧ sizeN a0 ≤ 4 := by cases a0 <;> decide
    rw [if_neg (by simp; omega)]
    simp only [Option.bind_some, List.nil_append, List.length_nil, Nat.zero_add, f_Trailer 594 a0 B hB, ofN_length, trailerN_length, ← ofN_append, List.length_append]
    rw [if_pos (by omega), if_pos (by omega), if_neg (by omega)]
    cases a0
    · rw [if_neg (by decide)]
      have e : Go.bits .and .u32 (R : Int) 65535 = ((R % 65536 : Nat) : Int) := by
        rw [show (65535 : Int) = ((65535 : Nat) : Int) from rfl, and_u32 _ _ (by omega) (by decide)]
        rw [show (65535 : Nat) = 2 ^ 16 - 1 by decide, Nat.and_two_pow_sub_one_eq_mod]
      rw [e]
      exact bursts_two false B hB (by omega) (R % 65536) T (Nat.mod_lt _ (by decide)) (by omega) 598 (by omega)
    · rw [if_pos rfl]
      exact bursts_two true B hB (by omega) R T (show R < 4294967296 by omega) (by omega) 598 (by omega)
end Go.Proofs.YtggpejjfgphihaaDoor.Pu
