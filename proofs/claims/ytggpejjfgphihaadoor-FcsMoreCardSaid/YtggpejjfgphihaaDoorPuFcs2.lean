/- The statements FcsMore, FcsSums2, FcsBursts, plainly: what their walked functions hand back is true. -/
import Derived.Test.YtggpejjfgphihaaDoorPuFcs
import Derived.Test.YtggpejjfgphihaaDoorDx1
import Derived.Test.YtggpejjfgphihaaDoorDx3
import Derived.Test.YtggpejjfgphihaaDoorDx5
namespace Go.Proofs.YtggpejjfgphihaaDoor.Pu
open Go.RowKit Go.Proofs.YtggpejjfgphihaaDoorW.PrintWords Go.Proofs.YtggpejjfgphihaaDoorW.PrintLast Go.Proofs.YtggpejjfgphihaaDoorW.PrintMore
open Go.Proofs.YtggpejjfgphihaaDoor.Given Go.Proofs.YtggpejjfgphihaaDoor.Crc Go.Proofs.YtggpejjfgphihaaDoor.D
set_option linter.unusedVariables false

theorem width_pred_lt (a0 : Bool) : widthOf a0 - 1 < 4294967296 := by cases a0 <;> decide

/-! FcsMore -/
theorem fcsMore_two (k : Nat) (a0 : Bool) (B : List Nat) (hB : ∀ x ∈ B, x < 256) (hl : B.length ≤ 400) (r : Nat) (hr : r < 4294967296) (at' : Nat) (hat : at' ≤ B.length) (hk : 5000 ≤ k) :
    marlinelaw02_FcsMore.j1 (k + 1) (ofN B) a0 (r : Int) (at' : Int) ((more (polyOf a0) (r % widthOf a0) B : Nat) : Int) ((widthOf a0 - 1 : Nat) : Int) = some true := by
  have hm0 : ∀ A : List Nat, (∀ x ∈ A, x < 256) → more (polyOf a0) (r % widthOf a0) A < widthOf a0 := fun A hA => more_lt a0 _ (Nat.mod_lt _ (width_le a0).1) A hA
  have hT : ∀ x ∈ B.take at', x < 256 := fun x hx => hB x (List.mem_of_mem_take hx)
  have hD : ∀ x ∈ B.drop at', x < 256 := fun x hx => hB x (List.mem_of_mem_drop hx)
  have h1 := hm0 _ hT
  have h2 := (width_le a0).2
  rw [marlinelaw02_FcsMore.j1, r_More k a0 r hr B hB (by omega) (by omega), Option.bind_some, if_pos rfl, if_pos (by omega), if_pos (by rw [ofN_length]; omega)]
  rw [Int.toNat_natCast, ofN_take, ofN_drop, f_More a0 r hr _ hT, Option.bind_some, f_More a0 _ (by omega) _ hD, Option.bind_some, Nat.mod_eq_of_lt h1, ← more_append, List.take_append_drop, if_pos rfl, f_Start, Option.bind_some]
  simp
theorem fcsMore_f (l : List Int) (hl : l.all okByte = true) (a0 : Bool) (r a : Int) (hr : 0 ≤ r ∧ r < 4294967296) (ha : 0 ≤ a ∧ a < 65536) : marlinelaw02_FcsMore.f 6000 l a0 r a = some true := by
  rw [ofN_of hl]
  have hB := bytes_of hl
  generalize l.map Int.toNat = B at *
  obtain ⟨R, rfl⟩ := Int.eq_ofNat_of_zero_le hr.1
  obtain ⟨T, rfl⟩ := Int.eq_ofNat_of_zero_le ha.1
  unfold marlinelaw02_FcsMore.f
  rw [show marlinelaw02_speaks.f = some true from rfl, Option.bind_some, if_pos rfl, marlinelaw02_FcsMore.j0, ofN_length]
  by_cases h : B.length > 400
  · rw [if_pos (by simp; omega)]; rfl
  · rw [if_neg (by simp; omega)]
    have e1 : wrap64 ((B.length : Int) + 1) = ((B.length + 1 : Nat) : Int) := by unfold wrap64; omega
    have e2 : wrap64 (T : Int) = (T : Int) := by unfold wrap64; omega
    rw [e1, e2, if_neg (by omega), f_More a0 R (by omega) B hB, Option.bind_some, tmodN]
    have hle : T % (B.length + 1) ≤ B.length := by have := Nat.mod_lt T (show B.length + 1 > 0 by omega); omega
    have := fcsMore_two 5998 a0 B hB (by omega) R (by omega) (T % (B.length + 1)) hle (by omega)
    cases a0
    · rw [if_neg (by decide)]; exact this
    · rw [if_pos rfl]; exact this

/-! FcsSums2 -/
def xorL : List Nat → List Nat → List Nat
  | a :: A, b :: B => (a ^^^ b) :: xorL A B
  | _, _ => []
theorem mul256_xor (a b : Nat) : 256 * (a ^^^ b) = 256 * a ^^^ 256 * b := by
  have h := Nat.shiftLeft_xor_distrib (a := a) (b := b) (i := 8)
  simp only [Nat.shiftLeft_eq] at h
  have e : (2 : Nat) ^ 8 = 256 := by decide
  rw [e] at h
  rw [Nat.mul_comm 256, Nat.mul_comm 256, Nat.mul_comm 256]
  exact h
theorem le_xorL : ∀ (A B : List Nat), A.length = B.length → le (xorL A B) = le A ^^^ le B := by
  intro A
  induction A with
  | nil => intro B h; cases B with | nil => rfl | cons _ _ => simp at h
  | cons a A ih =>
    intro B h
    cases B with
    | nil => simp at h
    | cons b B =>
      rw [xorL, le, le, le, ih B (by simpa using h), mul256_xor]
      ac_rfl
theorem xorL_length : ∀ (A B : List Nat), A.length = B.length → (xorL A B).length = A.length := by
  intro A
  induction A with
  | nil => intro B h; cases B with | nil => rfl | cons _ _ => simp at h
  | cons a A ih =>
    intro B h
    cases B with
    | nil => simp at h
    | cons b B => simp [xorL, ih B (by simpa using h)]
theorem xorL_get : ∀ (A B : List Nat) (h : A.length = B.length) (i : Nat) (hi : i < A.length), (xorL A B)[i]'(by rw [xorL_length A B h]; exact hi) = A[i] ^^^ (B[i]'(by omega)) := by
  intro A
  induction A with
  | nil => intro B h i hi; simp at hi
  | cons a A ih =>
    intro B h i hi
    cases B with
    | nil => simp at h
    | cons b B =>
      cases i with
      | zero => rfl
      | succ i => simpa [xorL] using ih B (by simpa using h) i (by simpa using hi)
theorem xorL_lt : ∀ (A B : List Nat), (∀ x ∈ A, x < 256) → (∀ x ∈ B, x < 256) → ∀ x ∈ xorL A B, x < 256 := by
  intro A
  induction A with
  | nil => intro B _ _ x hx; cases hx
  | cons a A ih =>
    intro B hA hB x hx
    cases B with
    | nil => cases hx
    | cons b B =>
      rcases List.mem_cons.1 hx with rfl | hx
      · exact Nat.xor_lt_two_pow (n := 8) (hA a List.mem_cons_self) (hB b List.mem_cons_self)
      · exact ih B (fun y hy => hA y (List.mem_cons_of_mem _ hy)) (fun y hy => hB y (List.mem_cons_of_mem _ hy)) x hx
theorem le_zeros (n : Nat) : le (List.replicate n 0) = 0 := by
  induction n with
  | zero => rfl
  | succ n ih => rw [List.replicate_succ, le, ih]; rfl
theorem sums2_plain (a0 : Bool) (A B : List Nat) (h : A.length = B.length) : sumN a0 A ^^^ sumN a0 B ^^^ sumN a0 (xorL A B) = sumN a0 (List.replicate A.length 0) := by
  unfold sumN
  rw [more_eq, more_eq, more_eq, more_eq, xorL_length A B h, List.length_replicate, ← h, le_xorL A B h, le_zeros, it_xor, it_xor, it_xor, it_xor, it_xor, it_zero]
  generalize it (polyOf a0) (8 * A.length) (widthOf a0 - 1) = a
  generalize it (polyOf a0) (8 * A.length) (le A) = b
  generalize it (polyOf a0) (8 * A.length) (le B) = c
  generalize widthOf a0 - 1 = d
  apply Nat.eq_of_testBit_eq
  intro i
  simp only [Nat.testBit_xor, Nat.zero_testBit]
  generalize a.testBit i = x
  generalize b.testBit i = y
  generalize c.testBit i = z
  generalize d.testBit i = u
  revert x y z u
  decide
theorem sums2_go (a0 : Bool) (A B : List Nat) (hA : ∀ x ∈ A, x < 256) (hB : ∀ x ∈ B, x < 256) (n : Nat) (hn1 : n ≤ A.length) (hn2 : n ≤ B.length) (hn : n ≤ 400) (Z : List Int) (r : Bool)
    (hend : ∀ k, marlinelaw02_FcsSums2.l0 (k + 1) (ofN A) (ofN B) a0 (n : Int) Z (ofN (xorL (A.take n) (B.take n))) (n : Int) (n : Int) = some r) :
    ∀ (m i k : Nat), n = i + m → marlinelaw02_FcsSums2.l0 (k + m + 1) (ofN A) (ofN B) a0 (n : Int) Z (ofN ((xorL (A.take n) (B.take n)).take i ++ List.replicate m 0)) (n : Int) (i : Int) = some r := by
  intro m
  have hlt : (A.take n).length = n := by rw [List.length_take]; omega
  have hlt2 : (A.take n).length = (B.take n).length := by rw [List.length_take, List.length_take]; omega
  have hX := xorL_length _ _ hlt2
  have hget := xorL_get _ _ hlt2
  rw [hlt] at hX
  induction m with
  | zero =>
    intro i k he
    have : i = n := by omega
    subst this
    rw [List.take_of_length_le (by omega)]
    simpa using hend k
  | succ m ih =>
    intro i k he
    rw [show k + (m + 1) + 1 = (k + m + 1) + 1 by omega, marlinelaw02_FcsSums2.l0, if_pos (by omega), if_pos (by omega), if_pos (by rw [ofN_length]; omega), if_pos (by rw [ofN_length]; omega)]
    have hlen : ((xorL (A.take n) (B.take n)).take i ++ List.replicate (m + 1) 0).length = n := by rw [List.length_append, List.length_take, hX, List.length_replicate]; omega
    rw [if_pos (by rw [ofN_length, hlen]; omega), ofN_rd A i (by omega), ofN_rd B i (by omega)]
    have ha := hA A[i] (List.getElem_mem (by omega))
    have hb := hB B[i] (List.getElem_mem (by omega))
    rw [xor_u8 _ _ (by omega) (by omega), Int.toNat_natCast, show wrap64 ((i : Int) + 1) = ((i + 1 : Nat) : Int) by unfold wrap64; omega]
    have e : (ofN ((xorL (A.take n) (B.take n)).take i ++ List.replicate (m + 1) 0)).set i ((A[i] ^^^ B[i] : Nat) : Int) = ofN ((xorL (A.take n) (B.take n)).take (i + 1) ++ List.replicate m 0) := by
      have hg := hget i (by omega)
      simp only [List.getElem_take] at hg
      rw [← hg]
      have hti : ((xorL (A.take n) (B.take n)).take i).length = i := by rw [List.length_take, hX]; omega
      rw [List.take_succ_eq_append_getElem (by omega), ofN, ← List.map_set, List.set_append_right _ _ (by omega), hti, Nat.sub_self, List.replicate_succ, List.set_cons_zero, List.append_assoc]; rfl
    rw [e]
    exact ih (i + 1) k (by omega)
theorem fcsSums2_two (k : Nat) (a0 : Bool) (A B : List Nat) (hA : ∀ x ∈ A, x < 256) (hB : ∀ x ∈ B, x < 256) (hlA : A.length ≤ 400) (hlB : B.length ≤ 400) :
    marlinelaw02_FcsSums2.j0 (k + 500) (ofN A) (ofN B) a0 false = some true := by
  obtain ⟨n, hn⟩ : ∃ n : Nat, n = min A.length B.length := ⟨_, rfl⟩
  have hmn : mn ((ofN A).length : Int) ((ofN B).length : Int) = (n : Int) := by unfold mn; rw [ofN_length, ofN_length]; split <;> omega
  rw [marlinelaw02_FcsSums2.j0, if_neg (by decide), hmn, if_pos (by omega), Int.toNat_natCast, if_pos (by omega)]
  have e0 : (List.replicate n 0 : List Int) = ofN (List.replicate n 0) := by simp [ofN]
  rw [e0]
  have hTA : ∀ x ∈ A.take n, x < 256 := fun x hx => hA x (List.mem_of_mem_take hx)
  have hTB : ∀ x ∈ B.take n, x < 256 := fun x hx => hB x (List.mem_of_mem_take hx)
  have hl : (A.take n).length = (B.take n).length := by rw [List.length_take, List.length_take]; omega
  have hlt : (A.take n).length = n := by rw [List.length_take]; omega
  have hZ : ∀ x ∈ List.replicate n 0, x < 256 := by intro x hx; rw [List.mem_replicate] at hx; omega
  have hX := xorL_lt _ _ hTA hTB
  have := sums2_go a0 A B hA hB n (by omega) (by omega) (by omega) (ofN (List.replicate n 0)) true (fun k => by
    rw [marlinelaw02_FcsSums2.l0, if_neg (by omega), if_pos (by omega), if_pos (by rw [ofN_length]; omega), Int.toNat_natCast, ofN_take, f_Sum a0 _ hTA, Option.bind_some, if_pos (by rw [ofN_length]; omega), ofN_take, f_Sum a0 _ hTB, Option.bind_some,
      f_Sum a0 _ hX, Option.bind_some, f_Sum a0 _ hZ, Option.bind_some]
    have p1 := sumN_lt32 a0 _ hTA
    have p2 := sumN_lt32 a0 _ hTB
    have p3 := sumN_lt32 a0 _ hX
    have p4 : sumN a0 (A.take n) ^^^ sumN a0 (B.take n) < 2 ^ 32 := Nat.xor_lt_two_pow (n := 32) p1 p2
    rw [xor_u32 _ _ p1 p2, xor_u32 _ _ p4 p3, sums2_plain a0 _ _ hl, hlt]
    simp) n 0 (k + 499 - n - 1) (by omega)
  rw [show k + 499 - n - 1 + n + 1 = k + 499 by omega] at this
  simpa using this
theorem fcsSums2_f (l m : List Int) (hl : l.all okByte = true) (hm : m.all okByte = true) (a0 : Bool) : marlinelaw02_FcsSums2.f 600 l m a0 = some true := by
  rw [ofN_of hl, ofN_of hm]
  have hA := bytes_of hl
  have hB := bytes_of hm
  generalize l.map Int.toNat = A at *
  generalize m.map Int.toNat = B at *
  unfold marlinelaw02_FcsSums2.f
  rw [show marlinelaw02_speaks.f = some true from rfl, Option.bind_some, if_pos rfl, ofN_length, ofN_length]
  have ht : marlinelaw02_FcsSums2.j0 600 (ofN A) (ofN B) a0 true = some true := by rw [marlinelaw02_FcsSums2.j0, if_pos rfl]; rfl
  by_cases h : A.length > 400
  · rw [if_pos (by omega)]; exact ht
  · rw [if_neg (by omega)]
    by_cases h2 : B.length > 400
    · rw [show decide ((B.length : Int) > 400) = true from decide_eq_true (by omega)]; exact ht
    · rw [show decide ((B.length : Int) > 400) = false from decide_eq_false (by omega)]
      exact fcsSums2_two 100 a0 A B hA hB (by omega) (by omega)
end Go.Proofs.YtggpejjfgphihaaDoor.Pu
