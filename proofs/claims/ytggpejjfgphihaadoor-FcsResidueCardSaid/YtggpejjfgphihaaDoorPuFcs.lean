/- What the walked functions of the sums hand back, on lists of numbers below 256. -/
import Derived.Test.YtggpejjfgphihaaDoorPuCrc
import Derived.Test.YtggpejjfgphihaaDoorDx8
namespace Go.Proofs.YtggpejjfgphihaaDoor.Pu
open Go.RowKit Go.Proofs.YtggpejjfgphihaaDoorW.PrintWords
open Go.Proofs.YtggpejjfgphihaaDoor.Given Go.Proofs.YtggpejjfgphihaaDoor.Crc Go.Proofs.YtggpejjfgphihaaDoor.D
set_option linter.unusedVariables false

def ofN (B : List Nat) : List Int := B.map fun (n : Nat) => (n : Int)
theorem ofN_length (B : List Nat) : (ofN B).length = B.length := by simp [ofN]
theorem ofN_toNat (B : List Nat) : (ofN B).map Int.toNat = B := by
  induction B with
  | nil => rfl
  | cons c B ih => simp only [ofN, List.map_cons] at ih ⊢; rw [ih]; rfl
theorem ofN_append (A B : List Nat) : ofN (A ++ B) = ofN A ++ ofN B := by simp [ofN]
theorem ofN_take (n : Nat) (B : List Nat) : (ofN B).take n = ofN (B.take n) := by simp [ofN]
theorem ofN_drop (n : Nat) (B : List Nat) : (ofN B).drop n = ofN (B.drop n) := by simp [ofN]
theorem ofN_ok (B : List Nat) (hB : ∀ x ∈ B, x < 256) : (ofN B).all okByte = true := by
  rw [List.all_eq_true]
  intro x hx
  obtain ⟨y, hy, rfl⟩ := List.mem_map.1 hx
  have := hB y hy
  simp [okByte]; omega
theorem ofN_of {l : List Int} (h : l.all okByte = true) : l = ofN (l.map Int.toNat) := by
  induction l with
  | nil => rfl
  | cons c l ih =>
    have h' := h
    simp only [List.all_cons, Bool.and_eq_true] at h'
    have := h'.1
    simp [okByte] at this
    simp only [ofN, List.map_cons] at ih ⊢
    rw [← ih h'.2]
    congr 1
    omega
theorem ofN_inj {A B : List Nat} (h : ofN A = ofN B) : A = B := by rw [← ofN_toNat A, h, ofN_toNat]
theorem ofN_rd (B : List Nat) (i : Nat) (hi : i < B.length) : rd (ofN B) (i : Int) = ((B[i] : Nat) : Int) := by
  simp [rd, ofN, hi]
theorem w64 (n : Nat) (h : n < 9223372036854775808) : wrap64 (n : Int) = (n : Int) := by unfold wrap64; omega

theorem f_Sum (a0 : Bool) (B : List Nat) (hB : ∀ x ∈ B, x < 256) : fcs_Sum.f a0 (ofN B) = some ((sumN a0 B : Nat) : Int) := by
  unfold fcs_Sum.f; rw [if_pos (ofN_ok B hB), ofN_toNat]
theorem f_More (a0 : Bool) (r : Nat) (hr : r < 4294967296) (B : List Nat) (hB : ∀ x ∈ B, x < 256) : fcs_More.f a0 (r : Int) (ofN B) = some ((more (polyOf a0) (r % widthOf a0) B : Nat) : Int) := by
  unfold fcs_More.f
  rw [if_pos ⟨ofN_ok B hB, by omega, by omega⟩, ofN_toNat]; rfl
theorem sumN_lt32 (a0 : Bool) (B : List Nat) (hB : ∀ x ∈ B, x < 256) : sumN a0 B < 4294967296 := Nat.lt_of_lt_of_le (sum_lt a0 B hB) (width_le a0).2
theorem trailer_go (n : Nat) : ∀ (k i : Nat) (s : Nat) (acc : List Int), acc.length + n < 1000 → n < 100 → i + n ≤ 4 → s < 4294967296 →
    fcs_Trailer.l0 (k + n + 1) (s : Int) acc ((i + n : Nat) : Int) (i : Int) = some (acc ++ ofN (bytesLE (s / 256 ^ i) n)) := by
  induction n with
  | zero =>
    intro k i s acc h1 h2 h3 h4
    rw [fcs_Trailer.l0, if_neg (by omega)]
    simp [bytesLE, ofN]
  | succ n ih =>
    intro k i s acc h1 h2 h3 h4
    rw [show k + (n + 1) + 1 = (k + n + 1) + 1 by omega, fcs_Trailer.l0, if_pos (by omega)]
    have e8 : wrap64 (8 * (i : Int)) = ((8 * i : Nat) : Int) := by unfold wrap64; omega
    rw [e8, if_pos (by omega), if_pos (by omega)]
    have e1 : wrap64 ((i : Int) + 1) = ((i + 1 : Nat) : Int) := by unfold wrap64; omega
    have e2 : shr .u32 (s : Int) ((8 * i : Nat) : Int) % 256 = ((s / 256 ^ i % 256 : Nat) : Int) := by
      unfold shr
      have : min ((8 * i : Nat) : Int).toNat IntKind.u32.bits = 8 * i := by simp only [Int.toNat_natCast, IntKind.bits]; omega
      rw [this, show ((2 : Int) ^ (8 * i)) = ((256 ^ i : Nat) : Int) by rw [show (256 : Nat) = 2 ^ 8 by decide, ← Nat.pow_mul]; simp]
      exact rfl
    rw [e1, e2, show ((i + (n + 1) : Nat) : Int) = ((i + 1 + n : Nat) : Int) from congrArg _ (by omega), ih k (i + 1) s (acc ++ [((s / 256 ^ i % 256 : Nat) : Int)]) (by simp; omega) (by omega) (by omega) h4]
    simp [bytesLE, ofN, Nat.pow_succ, Nat.div_div_eq_div_mul]
theorem f_Trailer (k : Nat) (a0 : Bool) (B : List Nat) (hB : ∀ x ∈ B, x < 256) : fcs_Trailer.f (k + 5) a0 (ofN B) = some (ofN (trailerN a0 B)) := by
  have hs := sumN_lt32 a0 B hB
  unfold fcs_Trailer.f
  rw [f_Sum a0 B hB, Option.bind_some]
  cases a0
  · have := trailer_go 2 (k + 2) 0 (sumN false B) [] (by decide) (by decide) (by decide) hs
    simpa [fcs_of.f, trailerN, sizeN] using this
  · have := trailer_go 4 k 0 (sumN true B) [] (by decide) (by decide) (by decide) hs
    simpa [fcs_of.f, trailerN, sizeN] using this
theorem f_Good (a0 : Bool) (B : List Nat) (hB : ∀ x ∈ B, x < 256) : fcs_Good.f a0 (ofN B) = some (goodB a0 B) := by
  have hm := f_More a0 (widthOf a0 - 1) (by cases a0 <;> decide) B hB
  rw [show (widthOf a0 - 1) % widthOf a0 = widthOf a0 - 1 by cases a0 <;> decide] at hm
  unfold fcs_Good.f goodB
  cases a0
  · simp only [fcs_of.f, Option.bind_some, ofN_length, sizeN, Bool.false_eq_true, if_false, widthOf, goodN, ge_iff_le] at hm ⊢
    have hm' : fcs_More.f false 65535 (ofN B) = some ((more (polyOf false) (65536 - 1) B : Nat) : Int) := hm
    by_cases h : 2 ≤ B.length
    · rw [if_pos (by omega), hm', Option.bind_some]
      simp only [h, decide_true, Bool.true_and]
      congr 1
      rw [Bool.eq_iff_iff]; simp; omega
    · rw [if_neg (by omega)]; simp [h]
  · simp only [fcs_of.f, Option.bind_some, ofN_length, sizeN, if_true, widthOf, goodN, ge_iff_le] at hm ⊢
    have hm' : fcs_More.f true 4294967295 (ofN B) = some ((more (polyOf true) (4294967296 - 1) B : Nat) : Int) := hm
    by_cases h : 4 ≤ B.length
    · rw [if_pos (by omega), hm', Option.bind_some]
      simp only [h, decide_true, Bool.true_and]
      congr 1
      rw [Bool.eq_iff_iff]; simp; omega
    · rw [if_neg (by omega)]; simp [h]
theorem f_Size (a0 : Bool) : fcs_Size.f a0 = some ((sizeN a0 : Nat) : Int) := by cases a0 <;> rfl
theorem r_Size (a0 : Bool) : marlineref02_Size.f a0 = some ((sizeN a0 : Nat) : Int) := by cases a0 <;> rfl
theorem f_Start (a0 : Bool) : fcs_Start.f a0 = some ((widthOf a0 - 1 : Nat) : Int) := by cases a0 <;> rfl

/-! the document's -/
theorem tmod2 (x : Nat) : Int.tmod (x : Int) 2 = ((x % 2 : Nat) : Int) := rfl
theorem tdivN (x : Nat) (n : Nat) : Int.tdiv (x : Int) (n : Int) = ((x / n : Nat) : Int) := rfl
theorem tmodN (x : Nat) (n : Nat) : Int.tmod (x : Int) (n : Int) = ((x % n : Nat) : Int) := rfl
theorem st_step (p x : Nat) (hp : p < 4294967296) (hx : x < 4294967296) : (if x % 2 = 1 then ((x / 2) ^^^ p) else x / 2) = st p x := by
  unfold st
  rcases Nat.mod_two_eq_zero_or_one x with h | h <;> rw [h] <;> simp
theorem more_bit (k : Nat) (x : Nat) (l : List Int) (p : Nat) (i : Int) (j : Nat) (hp : p < 4294967296) (hx : x < 4294967296) (hj : j < 8) :
    marlineref02_More.l1 (k + 1) (x : Int) l (p : Int) i (j : Int) = marlineref02_More.l1 k ((st p x : Nat) : Int) l (p : Int) i ((j + 1 : Nat) : Int) := by
  rw [marlineref02_More.l1, if_pos (by omega), tmod2]
  have e1 : wrap64 ((j : Int) + 1) = ((j + 1 : Nat) : Int) := by unfold wrap64; omega
  have e2 : Int.tdiv (x : Int) 2 % 4294967296 = ((x / 2 : Nat) : Int) := by
    have := tdivN x 2
    have h2 : ((2 : Nat) : Int) = 2 := rfl
    rw [h2] at this
    rw [this]; omega
  rw [e1, e2, ← st_step p x hp hx]
  by_cases h : x % 2 = 1
  · rw [if_pos (by omega), if_pos h, xor_u32 _ _ (by omega) (by omega)]
  · rw [if_neg (by omega), if_neg h]
theorem st_lt32 (p x : Nat) (hp : p < 4294967296) (hx : x < 4294967296) : st p x < 4294967296 := st_lt (w := 32) hp hx
theorem more_octet (k : Nat) (x : Nat) (l : List Int) (p : Nat) (i : Int) (hp : p < 4294967296) (hx : x < 4294967296) :
    marlineref02_More.l1 (k + 9) (x : Int) l (p : Int) i 0 = marlineref02_More.l0 k ((it p 8 x : Nat) : Int) l (p : Int) (wrap64 (i + 1)) := by
  have h0 := hx
  have h1 := st_lt32 p _ hp h0
  have h2 := st_lt32 p _ hp h1
  have h3 := st_lt32 p _ hp h2
  have h4 := st_lt32 p _ hp h3
  have h5 := st_lt32 p _ hp h4
  have h6 := st_lt32 p _ hp h5
  have h7 := st_lt32 p _ hp h6
  have e0 := more_bit (k + 8) x l p i 0 hp h0 (by decide)
  rw [show ((0 : Nat) : Int) = 0 from rfl] at e0
  rw [e0, more_bit (k + 7) _ l p i 1 hp h1 (by decide), more_bit (k + 6) _ l p i 2 hp h2 (by decide), more_bit (k + 5) _ l p i 3 hp h3 (by decide),
    more_bit (k + 4) _ l p i 4 hp h4 (by decide), more_bit (k + 3) _ l p i 5 hp h5 (by decide), more_bit (k + 2) _ l p i 6 hp h6 (by decide), more_bit (k + 1) _ l p i 7 hp h7 (by decide)]
  rw [marlineref02_More.l1, if_neg (by decide)]
  rfl
theorem more_all (p : Nat) (hp : p < 4294967296) (B : List Nat) (hB : ∀ x ∈ B, x < 256) (hl : B.length < 4611686018427387904) : ∀ (n i k x : Nat), B.length = i + n → x < 4294967296 →
    marlineref02_More.l0 (k + 10 * n + 1) (x : Int) (ofN B) (p : Int) (i : Int) = some ((more p x (B.drop i) : Nat) : Int) := by
  intro n
  induction n with
  | zero =>
    intro i k x he hx
    rw [marlineref02_More.l0, if_neg (by rw [ofN_length]; omega), List.drop_eq_nil_of_le (by omega)]; rfl
  | succ n ih =>
    intro i k x he hx
    have hi : i < B.length := by omega
    have hc := hB B[i] (List.getElem_mem hi)
    have hx1 : x ^^^ B[i] < 4294967296 := Nat.xor_lt_two_pow (n := 32) hx (by omega)
    rw [show k + 10 * (n + 1) + 1 = ((k + 10 * n + 1) + 9) + 1 by omega, marlineref02_More.l0, if_pos (by rw [ofN_length]; omega), if_pos (by omega), ofN_rd B i hi]
    rw [show ((B[i] : Nat) : Int) % 4294967296 = ((B[i] : Nat) : Int) by omega, xor_u32 _ _ (by omega) (by omega), more_octet _ _ _ _ _ hp hx1]
    rw [show wrap64 ((i : Int) + 1) = ((i + 1 : Nat) : Int) by unfold wrap64; omega, ih (i + 1) k _ (by omega) (it_lt (w := 32) 8 hp hx1)]
    rw [List.drop_eq_getElem_cons hi, more]
theorem r_More (k : Nat) (a0 : Bool) (r : Nat) (hr : r < 4294967296) (B : List Nat) (hB : ∀ x ∈ B, x < 256) (hl : B.length < 4611686018427387904) (hk : 10 * B.length + 2 ≤ k) :
    marlineref02_More.f k a0 (r : Int) (ofN B) = some ((more (polyOf a0) (r % widthOf a0) B : Nat) : Int) := by
  obtain ⟨m, rfl⟩ : ∃ m, k = (m + 10 * B.length + 1) + 1 := ⟨k - (10 * B.length + 2), by omega⟩
  unfold marlineref02_More.f
  cases a0
  · have h1 : Int.tmod (r : Int) 65536 = ((r % 65536 : Nat) : Int) := tmodN r 65536
    rw [if_neg (by decide), h1, marlineref02_More.j0]
    exact more_all 33800 (by decide) B hB hl B.length 0 m (r % 65536) (by omega) (by omega)
  · rw [if_pos rfl, marlineref02_More.j0]
    have : r % widthOf true = r := Nat.mod_eq_of_lt hr
    rw [this]
    exact more_all 3988292384 (by decide) B hB hl B.length 0 m r (by omega) hr
theorem sub_xor (w m : Nat) (h : m < 2 ^ w) : 2 ^ w - 1 - m = m ^^^ (2 ^ w - 1) := by
  apply Nat.eq_of_testBit_eq
  intro i
  rw [Nat.sub_sub, Nat.add_comm 1 m, Nat.testBit_two_pow_sub_succ h, Nat.testBit_xor, Nat.testBit_two_pow_sub_one]
  by_cases hi : i < w
  · simp [hi]
  · simp [hi]
    rw [Nat.testBit_lt_two_pow (Nat.lt_of_lt_of_le h (Nat.pow_le_pow_right (by decide) (by omega)))]
theorem r_Sum (k : Nat) (a0 : Bool) (B : List Nat) (hB : ∀ x ∈ B, x < 256) (hl : B.length < 4611686018427387904) (hk : 10 * B.length + 2 ≤ k) :
    marlineref02_Sum.f k a0 (ofN B) = some ((sumN a0 B : Nat) : Int) := by
  have hm := more_lt a0 (widthOf a0 - 1) (by cases a0 <;> decide) B hB
  unfold marlineref02_Sum.f sumN
  cases a0
  · have h := r_More k false 65535 (by decide) B hB hl hk
    have e : 65535 % widthOf false = widthOf false - 1 := by decide
    rw [e] at h
    have h' : marlineref02_More.f k false 65535 (ofN B) = _ := h
    rw [if_neg (by decide), h', Option.bind_some]
    have := sub_xor 16 _ hm
    have hw : widthOf false = 65536 := rfl
    rw [hw] at hm this ⊢
    generalize more (polyOf false) (65536 - 1) B = m at *
    rw [← this]
    congr 1
    omega
  · have h := r_More k true 4294967295 (by decide) B hB hl hk
    have e : 4294967295 % widthOf true = widthOf true - 1 := by decide
    rw [e] at h
    have h' : marlineref02_More.f k true 4294967295 (ofN B) = _ := h
    rw [if_pos rfl, h', Option.bind_some]
    have := sub_xor 32 _ hm
    have hw : widthOf true = 4294967296 := rfl
    rw [hw] at hm this ⊢
    generalize more (polyOf true) (4294967296 - 1) B = m at *
    rw [← this]
    congr 1
    omega
theorem r_Trailer (k : Nat) (a0 : Bool) (B : List Nat) (hB : ∀ x ∈ B, x < 256) (hl : B.length < 4611686018427387904) (hk : 10 * B.length + 2 ≤ k) :
    marlineref02_Trailer.f k a0 (ofN B) = some (ofN (trailerN a0 B)) := by
  have hs := sumN_lt32 a0 B hB
  unfold marlineref02_Trailer.f trailerN
  rw [r_Sum k a0 B hB hl hk]
  generalize sumN a0 B = s at *
  have e0 : Int.tmod (s : Int) 256 = ((s % 256 : Nat) : Int) := tmodN s 256
  have e1 : Int.tdiv (s : Int) 256 = ((s / 256 : Nat) : Int) := tdivN s 256
  have e2 : Int.tdiv (s : Int) 65536 = ((s / 65536 : Nat) : Int) := tdivN s 65536
  have e3 : Int.tdiv (s : Int) 16777216 = ((s / 16777216 : Nat) : Int) := tdivN s 16777216
  simp only [Option.bind_some, e0, e1, e2, e3]
  cases a0
  · simp only [Bool.false_eq_true, if_false, sizeN, bytesLE, ofN, List.map_cons, List.map_nil]
    congr 2
    · omega
    · congr 1; omega
  · simp only [if_true, sizeN, bytesLE, ofN, List.map_cons, List.map_nil, List.length_cons, List.length_nil]
    rw [if_pos (by omega)]
    simp only [List.cons_append, List.nil_append]
    congr 2
    · omega
    · congr 1
      · omega
      · congr 1
        · omega
        · congr 1; omega
theorem equal_go (A B : List Nat) (hl : A.length = B.length) (hb : A.length < 4611686018427387904) : ∀ (n i k : Nat), A.length = i + n →
    marlineref01_Equal.l0 (k + n + 1) (ofN A) (ofN B) (i : Int) = some (decide (A.drop i = B.drop i)) := by
  intro n
  induction n with
  | zero =>
    intro i k he
    rw [marlineref01_Equal.l0, if_neg (by rw [ofN_length]; omega), List.drop_eq_nil_of_le (by omega), List.drop_eq_nil_of_le (by omega)]; rfl
  | succ n ih =>
    intro i k he
    have ha : i < A.length := by omega
    have hb' : i < B.length := by omega
    rw [show k + (n + 1) + 1 = (k + n + 1) + 1 by omega, marlineref01_Equal.l0, if_pos (by rw [ofN_length]; omega), if_pos (by omega), if_pos (by rw [ofN_length]; omega), ofN_rd A i ha, ofN_rd B i hb']
    rw [show wrap64 ((i : Int) + 1) = ((i + 1 : Nat) : Int) by unfold wrap64; omega, ih (i + 1) k (by omega), List.drop_eq_getElem_cons ha, List.drop_eq_getElem_cons hb']
    by_cases h : A[i] = B[i]
    · rw [if_pos (by omega)]; simp only [h, List.cons.injEq, true_and]
    · rw [if_neg (by omega)]; simp only [List.cons.injEq, h, false_and, decide_false]
theorem r_Equal (k : Nat) (A B : List Nat) (hb : A.length < 4611686018427387904) (hk : A.length + 1 ≤ k) :
    marlineref01_Equal.f k (ofN A) (ofN B) = some (decide (A = B)) := by
  obtain ⟨m, rfl⟩ : ∃ m, k = m + A.length + 1 := ⟨k - (A.length + 1), by omega⟩
  unfold marlineref01_Equal.f
  rw [ofN_length, ofN_length]
  by_cases h : A.length = B.length
  · rw [if_pos (by omega)]
    exact equal_go A B h hb A.length 0 m (by omega)
  · rw [if_neg (by omega)]
    have : A ≠ B := fun e => h (by rw [e])
    simp [this]
theorem good_go (B T : List Nat) (at' : Nat) (hl : B.length = at' + T.length) (hb : B.length < 4611686018427387904) : ∀ (n i k : Nat), T.length = i + n →
    marlineref02_Good.l0 (k + n + 1) (ofN B) (at' : Int) (ofN T) (i : Int) = some (decide (B.drop (at' + i) = T.drop i)) := by
  intro n
  induction n with
  | zero =>
    intro i k he
    rw [marlineref02_Good.l0, if_neg (by rw [ofN_length]; omega), List.drop_eq_nil_of_le (by omega), List.drop_eq_nil_of_le (by omega)]; rfl
  | succ n ih =>
    intro i k he
    have ha : i < T.length := by omega
    have hb' : at' + i < B.length := by omega
    rw [show k + (n + 1) + 1 = (k + n + 1) + 1 by omega, marlineref02_Good.l0, if_pos (by rw [ofN_length]; omega)]
    rw [show wrap64 ((at' : Int) + (i : Int)) = ((at' + i : Nat) : Int) by unfold wrap64; omega]
    rw [if_pos (by omega), if_pos (by rw [ofN_length]; omega), if_pos (by omega), ofN_rd T i ha, ofN_rd B _ hb']
    rw [show wrap64 ((i : Int) + 1) = ((i + 1 : Nat) : Int) by unfold wrap64; omega, ih (i + 1) k (by omega), List.drop_eq_getElem_cons ha, List.drop_eq_getElem_cons hb']
    by_cases h : B[at' + i] = T[i]
    · rw [if_pos (by omega)]; simp only [h, List.cons.injEq, true_and, Nat.add_assoc]
    · rw [if_neg (by omega)]; simp only [List.cons.injEq, h, false_and, decide_false]
theorem r_Good (k : Nat) (a0 : Bool) (B : List Nat) (hB : ∀ x ∈ B, x < 256) (hl : B.length < 4611686018427387904) (hk : 10 * B.length + 10 ≤ k) :
    marlineref02_Good.f k a0 (ofN B) = some (goodB a0 B) := by
  unfold marlineref02_Good.f
  have hsz : sizeN a0 ≤ 4 := by cases a0 <;> decide
  rw [r_Size, Option.bind_some, ofN_length]
  have e : wrap64 ((B.length : Int) - (sizeN a0 : Int)) = (B.length : Int) - (sizeN a0 : Int) := by unfold wrap64; omega
  rw [e]
  by_cases h : sizeN a0 ≤ B.length
  · rw [if_neg (by omega), if_pos (by omega), if_pos (by omega)]
    have e2 : (B.length : Int) - (sizeN a0 : Int) = ((B.length - sizeN a0 : Nat) : Int) := by omega
    rw [e2, Int.toNat_natCast, ofN_take, r_Trailer k a0 _ (fun x hx => hB x (List.mem_of_mem_take hx)) (by rw [List.length_take]; omega) (by rw [List.length_take]; omega), Option.bind_some]
    have ht := trailerN_length a0 (B.take (B.length - sizeN a0))
    obtain ⟨m, rfl⟩ : ∃ m, k = m + sizeN a0 + 1 := ⟨k - (sizeN a0 + 1), by omega⟩
    rw [goodB_iff a0 B hB h]
    exact good_go B _ (B.length - sizeN a0) (by rw [ht]; omega) hl (sizeN a0) 0 m (by rw [ht]; omega)
  · rw [if_pos (by omega)]; simp [goodB, h]

/-- the statement FcsSums, plainly -/
theorem fcsSums_f (l : List Int) (hl : l.all okByte = true) (a0 : Bool) : marlinelaw02_FcsSums.f 5000 l a0 = some true := by
  rw [ofN_of hl]
  have hB := bytes_of hl
  generalize l.map Int.toNat = B at *
  unfold marlinelaw02_FcsSums.f
  rw [show marlinelaw02_speaks.f = some true from rfl, Option.bind_some, if_pos rfl, marlinelaw02_FcsSums.j0, ofN_length]
  by_cases h : B.length > 400
  · rw [if_pos (by simp; omega)]; rfl
  · rw [if_neg (by simp; omega)]
    have hT := f_Trailer 4994 a0 B hB
    have hall : ∀ x ∈ B ++ trailerN a0 B, x < 256 := by
      intro x hx
      rcases List.mem_append.1 hx with hx | hx
      · exact hB x hx
      · exact trailerN_lt a0 B x hx
    have hsz : sizeN a0 ≤ 4 := by cases a0 <;> decide
    simp only [Option.bind_some, List.nil_append, List.length_nil, ofN_length, Nat.zero_add, ← ofN_append, f_Sum a0 B hB, hT, r_Sum 4999 a0 B hB (by omega) (by omega),
      r_Trailer 4999 a0 B hB (by omega) (by omega), trailerN_length, r_Equal 4999 (trailerN a0 B) (trailerN a0 B) (by rw [trailerN_length]; omega) (by rw [trailerN_length]; omega), f_Good a0 B hB, r_Good 4999 a0 B hB (by omega) (by omega),
      f_Good a0 _ hall, goodB_trailer a0 B hB, f_Size, r_Size]
    rw [if_pos (by omega), if_pos (by omega)]
    simp
end Go.Proofs.YtggpejjfgphihaaDoor.Pu
