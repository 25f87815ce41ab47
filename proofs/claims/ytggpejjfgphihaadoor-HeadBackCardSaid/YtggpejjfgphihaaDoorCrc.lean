/- The register of a sum as a plain function of numbers: one step, several steps, and that they are linear over exclusive or. -/
namespace Go.Proofs.YtggpejjfgphihaaDoor.Crc

/-- one step of the register: half, by exclusive or with p where the lowest bit was 1 -/
def st (p x : Nat) : Nat := (x / 2) ^^^ (p * (x % 2))

def it (p : Nat) : Nat → Nat → Nat
  | 0, x => x
  | n + 1, x => it p n (st p x)

theorem xor_div2 (a b : Nat) : (a ^^^ b) / 2 = (a / 2) ^^^ (b / 2) := by
  have := Nat.shiftRight_xor_distrib (a := a) (b := b) (i := 1)
  simpa [Nat.shiftRight_eq_div_pow] using this

theorem st_xor (p a b : Nat) : st p (a ^^^ b) = st p a ^^^ st p b := by
  unfold st
  rw [xor_div2]
  have hm : (a ^^^ b) % 2 = (a % 2) ^^^ (b % 2) := by
    have := Nat.xor_mod_two_pow (a := a) (b := b) (n := 1)
    simpa using this
  rw [hm]
  have ha : a % 2 = 0 ∨ a % 2 = 1 := by omega
  have hb : b % 2 = 0 ∨ b % 2 = 1 := by omega
  rcases ha with ha | ha <;> rcases hb with hb | hb <;> simp [ha, hb]
  · rw [Nat.xor_assoc]
  · rw [Nat.xor_assoc, Nat.xor_assoc, Nat.xor_comm p]
  · rw [Nat.xor_assoc, ← Nat.xor_assoc p, Nat.xor_comm p (b/2), Nat.xor_assoc (b/2), Nat.xor_self, Nat.xor_zero]

theorem it_xor (p n a b : Nat) : it p n (a ^^^ b) = it p n a ^^^ it p n b := by
  induction n generalizing a b with
  | zero => rfl
  | succ n ih => simp only [it, st_xor, ih]

theorem st_zero (p : Nat) : st p 0 = 0 := by simp [st]
theorem it_zero (p n : Nat) : it p n 0 = 0 := by
  induction n with
  | zero => rfl
  | succ n ih => simp only [it, st_zero, ih]

theorem st_two (p x : Nat) : st p (2 * x) = x := by simp [st]

theorem it_add (p m n x : Nat) : it p (m + n) x = it p n (it p m x) := by
  induction m generalizing x with
  | zero => simp [it]
  | succ m ih => rw [Nat.add_right_comm]; simp only [it, ih]

theorem it_pow (p n x : Nat) : it p n (2 ^ n * x) = x := by
  induction n with
  | zero => simp [it]
  | succ n ih => rw [Nat.pow_succ, Nat.mul_comm (2 ^ n) 2, Nat.mul_assoc]; simp only [it, st_two, ih]

theorem it_pow' (p m n x : Nat) (h : m ≤ n) : it p n (2 ^ m * x) = it p (n - m) x := by
  obtain ⟨k, rfl⟩ : ∃ k, n = m + k := ⟨n - m, by omega⟩
  rw [it_add, it_pow]; congr 1; omega

theorem split8 (x : Nat) : x = (256 * (x / 256)) ^^^ (x % 256) := by
  have h : x % 256 < 2 ^ 8 := by omega
  have := Nat.two_pow_add_eq_or_of_lt h (x / 256)
  have e : 256 * (x / 256) ||| x % 256 = 256 * (x / 256) ^^^ x % 256 := by
    apply Nat.eq_of_testBit_eq
    intro i
    rw [Nat.testBit_or, Nat.testBit_xor]
    have h1 : (256 * (x / 256)) = 2 ^ 8 * (x / 256) := by rfl
    rw [h1, Nat.testBit_two_pow_mul]
    by_cases hi : 8 ≤ i
    · rw [Nat.testBit_lt_two_pow (Nat.lt_of_lt_of_le h (Nat.pow_le_pow_right (by decide) hi))]; simp
    · simp [hi]
  rw [← e]
  have e2 : (2 : Nat) ^ 8 = 256 := by decide
  rw [e2] at this
  rw [← this]; omega

/-- the program's way: a table's entry, and the register's upper part -/
theorem it8_split (p x : Nat) : it p 8 x = (x / 256) ^^^ it p 8 (x % 256) := by
  conv => lhs; rw [split8 x]
  rw [it_xor]
  congr 1
  exact it_pow p 8 (x / 256)

def more (p reg : Nat) : List Nat → Nat
  | [] => reg
  | c :: l => more p (it p 8 (reg ^^^ c)) l

def le : List Nat → Nat
  | [] => 0
  | c :: l => c ^^^ (256 * le l)

theorem more_eq (p : Nat) (l : List Nat) : ∀ reg, more p reg l = it p (8 * l.length) (reg ^^^ le l) := by
  induction l with
  | nil => intro reg; simp [more, le, it]
  | cons c l ih =>
    intro reg
    rw [more, ih, le]
    have : 8 * (c :: l).length = 8 + 8 * l.length := by simp [Nat.mul_add, Nat.add_comm]
    rw [this, it_add]
    congr 1
    rw [← Nat.xor_assoc, it_xor p 8 (reg ^^^ c)]
    congr 1
    exact (it_pow p 8 (le l)).symm

theorem more_append (p : Nat) (a b : List Nat) : ∀ reg, more p reg (a ++ b) = more p (more p reg a) b := by
  induction a with
  | nil => intro reg; rfl
  | cons c l ih => intro reg; simp only [List.cons_append, more, ih]

theorem st_lt {p w x : Nat} (hp : p < 2 ^ w) (hx : x < 2 ^ w) : st p x < 2 ^ w := by
  unfold st
  apply Nat.xor_lt_two_pow
  · omega
  · have : x % 2 = 0 ∨ x % 2 = 1 := by omega
    rcases this with h | h <;> rw [h] <;> simp <;> first | exact Nat.two_pow_pos w | exact hp

theorem it_lt {p w x : Nat} (n : Nat) (hp : p < 2 ^ w) (hx : x < 2 ^ w) : it p n x < 2 ^ w := by
  induction n generalizing x with
  | zero => exact hx
  | succ n ih => exact ih (st_lt hp hx)

theorem st_eq_zero {p w x : Nat} (hp : 2 ^ w ≤ p) (hx : x < 2 ^ (w + 1)) (h : st p x = 0) : x = 0 := by
  unfold st at h
  have h2 : x % 2 = 0 ∨ x % 2 = 1 := by omega
  have e : (2 : Nat) ^ (w + 1) = 2 * 2 ^ w := by rw [Nat.pow_succ]; omega
  rcases h2 with h2 | h2
  · rw [h2] at h; simp at h; omega
  · rw [h2] at h; simp at h
    have : x / 2 = p := by
      have := congrArg (· ^^^ p) h
      simpa [Nat.xor_assoc] using this
    omega

theorem it_eq_zero {p w x : Nat} (n : Nat) (hp : 2 ^ w ≤ p) (hp2 : p < 2 ^ (w + 1)) (hx : x < 2 ^ (w + 1)) (h : it p n x = 0) : x = 0 := by
  induction n generalizing x with
  | zero => exact h
  | succ n ih => exact st_eq_zero hp hx (ih (st_lt hp2 hx) h)

theorem xor_eq_zero {a b : Nat} (h : a ^^^ b = 0) : a = b := by
  have := congrArg (· ^^^ b) h
  simpa [Nat.xor_assoc] using this

theorem it_inj {p w x y : Nat} (n : Nat) (hp : 2 ^ w ≤ p) (hp2 : p < 2 ^ (w + 1)) (hx : x < 2 ^ (w + 1)) (hy : y < 2 ^ (w + 1)) (h : it p n x = it p n y) : x = y := by
  apply xor_eq_zero
  apply it_eq_zero n hp hp2 (Nat.xor_lt_two_pow hx hy)
  rw [it_xor, h, Nat.xor_self]

end Go.Proofs.YtggpejjfgphihaaDoor.Crc
