/- Lists of numbers below 256 as lists of the model's numbers; Equal of the document's chapter 01. -/
import Derived.Test.YtggpejjfgphihaaDoorGSum
import Derived.Test.YtggpejjfgphihaaDoorDx6
namespace Go.Proofs.YtggpejjfgphihaaDoor.Pu
open Go.RowKit Go.Proofs.YtggpejjfgphihaaDoorW.PrintWords
open Go.Proofs.YtggpejjfgphihaaDoor.Given Go.Proofs.YtggpejjfgphihaaDoor.D
set_option linter.unusedVariables false

def ofN (B : List Nat) : List Int := B.map fun (n : Nat) => (n : Int)
theorem ofN_length (B : List Nat) : (ofN B).length = B.length := by simp [ofN]
theorem ofN_toNat (B : List Nat) : (ofN B).map Int.toNat = B := by
  induction B with
  | nil => rfl
  | cons c B ih => simp only [ofN, List.map_cons] at ih ⊢; rw [ih]; rfl
theorem ofN_append (A B : List Nat) : ofN (A ++ B) = ofN A ++ ofN B := by simp [ofN]
theorem ofN_take (n : Nat) (B : List Nat) : (ofN B).take n = ofN (B.take n) := by simp [ofN]
theorem ofN_drop (n : Nat) (B : List Nat) : (ofN B).drop n = ofN (B.drop n) := by simp [ofN]
theorem ofN_ok (B : List Nat) (hB : ∀ x ∈ B, x < 256) : (ofN B).all okByte = true := by
  rw [List.all_eq_true]
  intro x hx
  obtain ⟨y, hy, rfl⟩ := List.mem_map.1 hx
  have := hB y hy
  simp [okByte]; omega
theorem ofN_of {l : List Int} (h : l.all okByte = true) : l = ofN (l.map Int.toNat) := by
  induction l with
  | nil => rfl
  | cons c l ih =>
    have h' := h
    simp only [List.all_cons, Bool.and_eq_true] at h'
    have := h'.1
    simp [okByte] at this
    simp only [ofN, List.map_cons] at ih ⊢
    rw [← ih h'.2]
    congr 1
    omega
theorem ofN_inj {A B : List Nat} (h : ofN A = ofN B) : A = B := by rw [← ofN_toNat A, h, ofN_toNat]
theorem ofN_rd (B : List Nat) (i : Nat) (hi : i < B.length) : rd (ofN B) (i : Int) = ((B[i] : Nat) : Int) := by
  simp [rd, ofN, hi]
theorem w64 (n : Nat) (h : n < 9223372036854775808) : wrap64 (n : Int) = (n : Int) := by unfold wrap64; omega

theorem tmod2 (x : Nat) : Int.tmod (x : Int) 2 = ((x % 2 : Nat) : Int) := rfl
theorem tdivN (x : Nat) (n : Nat) : Int.tdiv (x : Int) (n : Int) = ((x / n : Nat) : Int) := rfl
theorem tmodN (x : Nat) (n : Nat) : Int.tmod (x : Int) (n : Int) = ((x % n : Nat) : Int) := rfl
theorem equal_go (A B : List Nat) (hl : A.length = B.length) (hb : A.length < 4611686018427387904) : ∀ (n i k : Nat), A.length = i + n →
    marlineref01_Equal.l0 (k + n + 1) (ofN A) (ofN B) (i : Int) = some (decide (A.drop i = B.drop i)) := by
  intro n
  induction n with
  | zero =>
    intro i k he
    rw [marlineref01_Equal.l0, if_neg (by rw [ofN_length]; omega), List.drop_eq_nil_of_le (by omega), List.drop_eq_nil_of_le (by omega)]; rfl
  | succ n ih =>
    intro i k he
    have ha : i < A.length := by omega
    have hb' : i < B.length := by omega
    rw [show k + (n + 1) + 1 = (k + n + 1) + 1 by omega, marlineref01_Equal.l0, if_pos (by rw [ofN_length]; omega), if_pos (by omega), if_pos (by rw [ofN_length]; omega), ofN_rd A i ha, ofN_rd B i hb']
    rw [show wrap64 ((i : Int) + 1) = ((i + 1 : Nat) : Int) by unfold wrap64; omega, ih (i + 1) k (by omega), List.drop_eq_getElem_cons ha, List.drop_eq_getElem_cons hb']
    by_cases h : A[i] = B[i]
    · rw [if_pos (by omega)]; simp only [h, List.cons.injEq, true_and]
    · rw [if_neg (by omega)]; simp only [List.cons.injEq, h, false_and, decide_false]
theorem r_Equal (k : Nat) (A B : List Nat) (hb : A.length < 4611686018427387904) (hk : A.length + 1 ≤ k) :
    marlineref01_Equal.f k (ofN A) (ofN B) = some (decide (A = B)) := by
  obtain ⟨m, rfl⟩ : ∃ m, k = m + A.length + 1 := ⟨k - (A.length + 1), by omega⟩
  unfold marlineref01_Equal.f
  rw [ofN_length, ofN_length]
  by_cases h : A.length = B.length
  · rw [if_pos (by omega)]
    exact equal_go A B h hb A.length 0 m (by omega)
  · rw [if_neg (by omega)]
    have : A ≠ B := fun e => h (by rw [e])
    simp [this]
end Go.Proofs.YtggpejjfgphihaaDoor.Pu
