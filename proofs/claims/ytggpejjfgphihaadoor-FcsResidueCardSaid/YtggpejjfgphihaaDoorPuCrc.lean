/- Plain laws of the sums: octets as one number, the residue, what ends with its own sum. -/
import Derived.Test.YtggpejjfgphihaaDoorGSum
namespace Go.Proofs.YtggpejjfgphihaaDoor.Pu
open Go.Proofs.YtggpejjfgphihaaDoor.Given Go.Proofs.YtggpejjfgphihaaDoor.Crc

/-- the lowest octet first -/
def bytesLE (n : Nat) : Nat → List Nat
  | 0 => []
  | k + 1 => n % 256 :: bytesLE (n / 256) k
theorem bytesLE_length (k : Nat) : ∀ n, (bytesLE n k).length = k := by
  induction k with
  | zero => intro n; rfl
  | succ k ih => intro n; simp [bytesLE, ih]
theorem bytesLE_lt (k : Nat) : ∀ n, ∀ x ∈ bytesLE n k, x < 256 := by
  induction k with
  | zero => intro n x hx; cases hx
  | succ k ih =>
    intro n x hx
    rcases List.mem_cons.1 hx with rfl | hx
    · omega
    · exact ih _ x hx
theorem le_bytesLE (k : Nat) : ∀ n, n < 256 ^ k → le (bytesLE n k) = n := by
  induction k with
  | zero => intro n hn; simp [bytesLE, le] at *; omega
  | succ k ih =>
    intro n hn
    rw [bytesLE, le, ih _ (by rw [Nat.pow_succ] at hn; omega), Nat.xor_comm]
    exact (split8 n).symm
theorem xor_parts (c m : Nat) (hc : c < 256) : (c ^^^ 256 * m) % 256 = c ∧ (c ^^^ 256 * m) / 256 = m := by
  constructor
  · have h := Nat.xor_mod_two_pow (a := c) (b := 256 * m) (n := 8)
    have h1 : (256 * m) % 2 ^ 8 = 0 := by omega
    have h2 : c % 2 ^ 8 = c := by omega
    rw [h1, h2, Nat.xor_zero] at h
    exact h
  · have h := Nat.shiftRight_xor_distrib (a := c) (b := 256 * m) (i := 8)
    simp only [Nat.shiftRight_eq_div_pow] at h
    have h1 : (256 * m) / 2 ^ 8 = m := by omega
    have h2 : c / 2 ^ 8 = 0 := by omega
    rw [h1, h2, Nat.zero_xor] at h
    exact h
theorem le_inj : ∀ (a b : List Nat), a.length = b.length → (∀ x ∈ a, x < 256) → (∀ x ∈ b, x < 256) → le a = le b → a = b := by
  intro a
  induction a with
  | nil => intro b hl _ _ _; cases b with | nil => rfl | cons _ _ => simp at hl
  | cons c a ih =>
    intro b hl ha hb he
    cases b with
    | nil => simp at hl
    | cons d b =>
      rw [le, le] at he
      obtain ⟨p1, p2⟩ := xor_parts c (le a) (ha c List.mem_cons_self)
      obtain ⟨q1, q2⟩ := xor_parts d (le b) (hb d List.mem_cons_self)
      rw [he] at p1 p2
      have e1 : c = d := p1.symm.trans q1
      have e2 : le a = le b := p2.symm.trans q2
      rw [e1, ih b (by simpa using hl) (fun x hx => ha x (List.mem_cons_of_mem _ hx)) (fun x hx => hb x (List.mem_cons_of_mem _ hx)) e2]
theorem le_lt (l : List Nat) (hl : ∀ x ∈ l, x < 256) : le l < 2 ^ (8 * l.length) := by
  induction l with
  | nil => simp [le]
  | cons c l ih =>
    rw [le]
    have h1 := ih (fun x hx => hl x (List.mem_cons_of_mem _ hx))
    have hc := hl c List.mem_cons_self
    have e : 8 * (c :: l).length = 8 * l.length + 8 := by simp [Nat.mul_add]
    rw [e]
    apply Nat.xor_lt_two_pow
    · exact Nat.lt_of_lt_of_le hc (by rw [Nat.pow_add]; exact Nat.le_mul_of_pos_left _ (Nat.two_pow_pos _))
    · rw [Nat.pow_add]; omega

def sizeN (a0 : Bool) : Nat := if a0 = true then 4 else 2
def goodN (a0 : Bool) : Nat := if a0 = true then 3736805603 else 61624
def trailerN (a0 : Bool) (B : List Nat) : List Nat := bytesLE (sumN a0 B) (sizeN a0)
theorem trailerN_length (a0 : Bool) (B : List Nat) : (trailerN a0 B).length = sizeN a0 := bytesLE_length _ _
theorem trailerN_lt (a0 : Bool) (B : List Nat) : ∀ x ∈ trailerN a0 B, x < 256 := bytesLE_lt _ _
theorem le_trailerN (a0 : Bool) (B : List Nat) (hB : ∀ x ∈ B, x < 256) : le (trailerN a0 B) = sumN a0 B := by
  apply le_bytesLE
  have h := sum_lt a0 B hB
  cases a0 <;> simpa [sizeN, widthOf] using h
theorem width_pow (a0 : Bool) : widthOf a0 = 2 ^ (8 * sizeN a0) := by cases a0 <;> decide
theorem it_good (a0 : Bool) : it (polyOf a0) (8 * sizeN a0) (widthOf a0 - 1) = goodN a0 := by cases a0 <;> decide +kernel
theorem poly_bounds (a0 : Bool) : 2 ^ (8 * sizeN a0 - 1) ≤ polyOf a0 ∧ polyOf a0 < 2 ^ (8 * sizeN a0 - 1 + 1) := by cases a0 <;> decide
theorem width_pow' (a0 : Bool) : widthOf a0 = 2 ^ (8 * sizeN a0 - 1 + 1) := by cases a0 <;> decide
theorem xor_xor_self (a b : Nat) : a ^^^ b ^^^ b = a := by rw [Nat.xor_assoc, Nat.xor_self, Nat.xor_zero]

/-- behind octets and as many as a sum has: the register of the document, just where these are the sum -/
theorem residue (a0 : Bool) (A T : List Nat) (hA : ∀ x ∈ A, x < 256) (hT : ∀ x ∈ T, x < 256) (hl : T.length = sizeN a0) :
    more (polyOf a0) (widthOf a0 - 1) (A ++ T) = goodN a0 ↔ T = trailerN a0 A := by
  have hw1 : widthOf a0 - 1 < widthOf a0 := by cases a0 <;> decide
  have hm := more_lt a0 (widthOf a0 - 1) hw1 A hA
  rw [more_append, more_eq, hl, ← it_good]
  have hle : le T < widthOf a0 := by rw [width_pow, ← hl]; exact le_lt T hT
  constructor
  · intro h
    have h1 := it_inj (8 * sizeN a0) (poly_bounds a0).1 (poly_bounds a0).2 (by rw [← width_pow']; rw [width_pow] at hm hle ⊢; exact Nat.xor_lt_two_pow hm hle) (by rw [← width_pow']; exact hw1) h
    have h2 : le T = sumN a0 A := by
      unfold sumN
      generalize more (polyOf a0) (widthOf a0 - 1) A = m at h1 ⊢
      generalize widthOf a0 - 1 = W at h1 ⊢
      rw [← h1]
      rw [← Nat.xor_assoc, Nat.xor_self, Nat.zero_xor]
    exact le_inj _ _ (by rw [hl, trailerN_length]) hT (trailerN_lt _ _) (by rw [h2, le_trailerN a0 A hA])
  · intro h
    rw [h, le_trailerN a0 A hA]
    unfold sumN
    rw [← Nat.xor_assoc, Nat.xor_self, Nat.zero_xor]
theorem more_good (a0 : Bool) (A : List Nat) (hA : ∀ x ∈ A, x < 256) : more (polyOf a0) (widthOf a0 - 1) (A ++ trailerN a0 A) = goodN a0 :=
  (residue a0 A _ hA (trailerN_lt _ _) (trailerN_length _ _)).2 rfl
/-- do octets end with the sum of those ahead? -/
def goodB (a0 : Bool) (B : List Nat) : Bool := decide (sizeN a0 ≤ B.length) && decide (more (polyOf a0) (widthOf a0 - 1) B = goodN a0)
theorem goodB_iff (a0 : Bool) (B : List Nat) (hB : ∀ x ∈ B, x < 256) (h : sizeN a0 ≤ B.length) :
    goodB a0 B = decide (B.drop (B.length - sizeN a0) = trailerN a0 (B.take (B.length - sizeN a0))) := by
  have e := residue a0 (B.take (B.length - sizeN a0)) (B.drop (B.length - sizeN a0)) (fun x hx => hB x (List.mem_of_mem_take hx)) (fun x hx => hB x (List.mem_of_mem_drop hx)) (by rw [List.length_drop]; omega)
  rw [List.take_append_drop] at e
  simp [goodB, h, e]
theorem goodB_trailer (a0 : Bool) (A : List Nat) (hA : ∀ x ∈ A, x < 256) : goodB a0 (A ++ trailerN a0 A) = true := by
  simp [goodB, more_good a0 A hA, trailerN_length]
end Go.Proofs.YtggpejjfgphihaaDoor.Pu
