/- What the walked functions of the headers hand back, on numbers and lists of numbers below 256. -/
import Derived.Test.YtggpejjfgphihaaDoorPuBase
import Derived.Test.YtggpejjfgphihaaDoorGPut
import Derived.Test.YtggpejjfgphihaaDoorHx6
import Derived.Lib.Bytes
namespace Go.Proofs.YtggpejjfgphihaaDoor.Pu
open Go.RowKit Go.Proofs.YtggpejjfgphihaaDoorW.PrintWords Go.Proofs.YtggpejjfgphihaaDoorW.PrintLast Go.Proofs.YtggpejjfgphihaaDoorW.PrintMore
open Go.Proofs.YtggpejjfgphihaaDoor.Given Go.Proofs.YtggpejjfgphihaaDoor.D Go.Proofs.YtggpejjfgphihaaDoor.H
set_option linter.unusedVariables false
set_option linter.unusedSimpArgs false

/-- a protocol that may be -/
def right (p : Nat) : Bool := decide (p % 2 = 1) && decide (p / 256 % 2 = 0) && decide (p ≠ 255)
theorem and_bit (p : Nat) : p &&& 2 ^ 8 = 256 * (p / 256 % 2) := by
  have ht : p.testBit 8 = decide (p / 256 % 2 = 1) := by rw [Nat.testBit_eq_decide_div_mod_eq]
  rcases Nat.mod_two_eq_zero_or_one (p / 256) with h2 | h2
  · rw [h2]
    apply Nat.eq_of_testBit_eq
    intro i
    rw [Nat.testBit_and, Nat.testBit_two_pow]
    by_cases hi : 8 = i
    · subst hi; rw [ht, h2]; decide
    · simp [hi]
  · rw [h2]
    apply Nat.eq_of_testBit_eq
    intro i
    rw [Nat.testBit_and, show 256 * 1 = 2 ^ 8 by decide, Nat.testBit_two_pow]
    by_cases hi : 8 = i
    · subst hi; rw [ht, h2]; decide
    · simp [hi]
theorem and257 (p : Nat) : p &&& 257 = p % 2 + 256 * (p / 256 % 2) := by
  have e : (257 : Nat) = 1 ||| 2 ^ 8 := by decide
  rw [e, Nat.and_or_distrib_left, Nat.and_one_is_mod, and_bit]
  rcases Nat.mod_two_eq_zero_or_one p with h1 | h1 <;> rcases Nat.mod_two_eq_zero_or_one (p / 256) with h2 | h2 <;> rw [h1, h2] <;> decide
theorem f_Right (p : Nat) (hp : p < 65536) : proto_Right.f (p : Int) = some (right p) := by
  unfold proto_Right.f
  rw [show (257 : Int) = ((257 : Nat) : Int) from rfl, and_u16 p 257 (by omega) (by decide), and257]
  have h1 : p % 2 < 2 := Nat.mod_lt _ (by decide)
  have h2 : p / 256 % 2 < 2 := Nat.mod_lt _ (by decide)
  unfold right
  by_cases a : p % 2 = 1
  · by_cases b : p / 256 % 2 = 0
    · rw [if_pos (by omega)]; simp [a, b]; rw [Bool.eq_iff_iff]; simp; omega
    · rw [if_neg (by omega)]; simp [a, b]
  · rw [if_neg (by omega)]; simp [a]
theorem r_Right (p : Nat) (hp : p < 65536) : marlineref09_Right.f (p : Int) = some (right p) := by
  unfold marlineref09_Right.f right
  rw [tmod2 p, show Int.tdiv (p : Int) 256 = ((p / 256 : Nat) : Int) from tdivN p 256, w64 (p / 256) (by omega), tmod2]
  by_cases a : p % 2 = 1
  · by_cases b : p / 256 % 2 = 0
    · rw [if_pos (by omega), if_pos (by omega)]; simp [a, b]; rw [Bool.eq_iff_iff]; simp; omega
    · rw [if_pos (by omega), if_neg (by omega)]; simp [a, b]
  · rw [if_neg (by omega)]; simp [a]
/-- a protocol's number, as written -/
def numN (p : Nat) (short : Bool) : List Nat := if short = true ∧ p < 256 then [p % 256] else [p / 256, p % 256]
theorem numN_lt (p : Nat) (short : Bool) (hp : p < 65536) : ∀ x ∈ numN p short, x < 256 := by
  unfold numN
  split <;> simp <;> omega
theorem numN_len (p : Nat) (short : Bool) : 1 ≤ (numN p short).length ∧ (numN p short).length ≤ 2 := by
  unfold numN
  split <;> simp
theorem u64w (n : Nat) (h : n < 18446744073709551616) : IntKind.u64.wrap (n : Int) = (n : Int) := by
  simp [IntKind.wrap, IntKind.bits, IntKind.signed]; omega
theorem u16w (n : Nat) (h : n < 65536) : IntKind.u16.wrap (n : Int) = (n : Int) := by
  simp [IntKind.wrap, IntKind.bits, IntKind.signed]; omega
theorem wa : wrap64 (2 - 1) = 1 := by unfold wrap64; omega
theorem wb : wrap64 (1 - 1) = 0 := by unfold wrap64; omega
theorem wc : wrap64 (0 - 1) = -1 := by unfold wrap64; omega
theorem wd : wrap64 (8 * 1) = 8 := by unfold wrap64; omega
theorem we : wrap64 (8 * 0) = 0 := by unfold wrap64; omega
theorem wirePut2 (k : Nat) (p : Nat) (hp : p < 65536) : wire_Put.f (k + 3) ([] : List Int) (p : Int) 2 = some [((p / 256 : Nat) : Int), ((p % 256 : Nat) : Int)] := by
  unfold wire_Put.f
  rw [wa, wire_Put.l0, if_pos (by omega), wd, if_pos (by omega), if_pos (by simp), wb, wire_Put.l0, if_pos (by omega), we, if_pos (by omega), if_pos (by simp), wc, wire_Put.l0, if_neg (by omega)]
  have e1 : shr .u64 (p : Int) 8 % 256 = ((p / 256 : Nat) : Int) := by
    unfold shr
    rw [show min (8 : Int).toNat IntKind.u64.bits = 8 by decide]; omega
  have e2 : shr .u64 (p : Int) 0 % 256 = ((p % 256 : Nat) : Int) := by
    unfold shr
    rw [show min (0 : Int).toNat IntKind.u64.bits = 0 by decide]; omega
  rw [e1, e2]; rfl
theorem f_Put (k p : Nat) (short : Bool) (hp : p < 65536) : proto_Put.f (k + 3) (p : Int) short = some (ofN (numN p short)) := by
  unfold proto_Put.f numN
  rw [u64w p (by omega), wirePut2 k p hp, Option.bind_some]
  cases short
  · simp [ofN]
  · by_cases h : p < 256
    · have h2 : (p : Int) < 256 := by omega
      simp [proto_Short.f, h, h2, ofN]
    · have h2 : ¬ (p : Int) < 256 := by omega
      simp [proto_Short.f, h, h2, ofN]
theorem r_Put (p : Nat) (short : Bool) (hp : p < 65536) : marlineref09_Put.f (p : Int) short = some (ofN (numN p short)) := by
  unfold marlineref09_Put.f numN
  rw [show Int.tdiv (p : Int) 256 = ((p / 256 : Nat) : Int) from tdivN p 256, w64 (p / 256) (by omega), show Int.tmod (p : Int) 256 = ((p % 256 : Nat) : Int) from tmodN p 256]
  have e1 : ((p / 256 : Nat) : Int) % 256 = ((p / 256 : Nat) : Int) := by omega
  have e2 : ((p % 256 : Nat) : Int) % 256 = ((p % 256 : Nat) : Int) := by omega
  rw [e1, e2]
  cases short
  · simp [ofN]
  · by_cases h : p < 256
    · have h2 : (p : Int) < 256 := by omega
      simp [h, h2, ofN]
    · have h2 : ¬ (p : Int) < 256 := by omega
      simp [h, h2, ofN]
/-- a header, as written -/
def headN (acfc pfc : Bool) (p : Nat) : List Nat := if acfc = true ∧ p ≠ 49185 then numN p pfc else 255 :: 3 :: numN p (pfc && decide (p ≠ 49185))
theorem headN_lt (acfc pfc : Bool) (p : Nat) (hp : p < 65536) : ∀ x ∈ headN acfc pfc p, x < 256 := by
  unfold headN
  split
  · exact numN_lt p _ hp
  · intro x hx
    rcases List.mem_cons.1 hx with rfl | hx
    · decide
    rcases List.mem_cons.1 hx with rfl | hx
    · decide
    · exact numN_lt p _ hp x hx
theorem f_head (k p : Nat) (hp : p < 65536) (a b acfc pfc : Bool) (x y z : Int) : head_Put.f (k + 3) a b acfc pfc x y z (p : Int) = some (ofN (headN acfc pfc p)) := by
  unfold head_Put.f headN
  have e : (((p : Int) == 49185) : Bool) = decide (p = 49185) := by rw [Bool.eq_iff_iff]; simp; omega
  rw [e, f_Put k p _ hp, Option.bind_some]
  have hl := numN_len p (pfc && !decide (p = 49185))
  have hd : (!decide (p = 49185)) = decide (p ≠ 49185) := by simp
  rw [hd] at hl ⊢
  by_cases h : p = 49185
  · simp only [h, ne_eq, not_true, decide_false, Bool.and_false, Bool.false_eq_true, if_false, and_false] at hl ⊢
    rw [if_pos (by rw [ofN_length]; omega)]; simp [ofN]
  · cases acfc
    · simp only [h, ne_eq, not_false_eq_true, decide_true, Bool.false_and, Bool.and_true, Bool.false_eq_true, if_false, false_and] at hl ⊢
      rw [if_pos (by rw [ofN_length]; omega)]; simp [ofN]
    · simp only [h, ne_eq, not_false_eq_true, decide_true, Bool.true_and, Bool.and_true, if_true, true_and]
theorem r_head (p : Nat) (hp : p < 65536) (a b acfc pfc : Bool) (x y z : Int) : marlineref10_Put.f a b acfc pfc x y z (p : Int) = some (ofN (headN acfc pfc p)) := by
  have e : (((p : Int) != 49185) : Bool) = decide (p ≠ 49185) := by rw [Bool.eq_iff_iff]; simp; omega
  have hl := fun s => numN_len p s
  unfold marlineref10_Put.f headN
  by_cases h : p = 49185
  · subst h
    cases acfc <;> cases pfc <;> decide +kernel
  · have h' : ¬ (p : Int) = 49185 := by omega
    have hd : decide (p ≠ 49185) = true := decide_eq_true h
    rw [e, hd]
    cases acfc <;> cases pfc <;> simp [h, h', r_Put p _ hp, ofN_length] <;> (have h1 := hl true; have h2 := hl false; first | omega | skip)
    all_goals exact ⟨by omega, rfl⟩
/-- which protocol octets begin with, how many these are, and why none -/
def getN (l : List Nat) (short : Bool) : Nat × Nat × Nat :=
  match l with
  | [] => (0, 0, 2)
  | c :: l => if c % 2 = 0 then (match l with
    | [] => (0, 0, 2)
    | d :: _ => if right (256 * c + d) = true then (256 * c + d, 2, 0) else (0, 0, 7))
    else if right c = true ∧ short = true then (c, 1, 0) else (0, 0, 7)
def tri (t : Nat × Nat × Nat) : Int × Int × Int := ((t.1 : Int), (t.2.1 : Int), (t.2.2 : Int))
theorem or64 (a b : Nat) (ha : a < 2 ^ 64) (hb : b < 2 ^ 64) : Go.bits .or .u64 (a : Int) (b : Int) = ((a ||| b : Nat) : Int) := by
  have h : a ||| b < 2 ^ IntKind.u64.bits := Nat.or_lt_two_pow ha hb
  have e1 : a % 2 ^ IntKind.u64.bits = a := Nat.mod_eq_of_lt ha
  have e2 : b % 2 ^ IntKind.u64.bits = b := Nat.mod_eq_of_lt hb
  simp only [Go.bits, BitVec.ofInt_natCast, BitVec.toNat_or, BitVec.toNat_ofNat, e1, e2]
  exact u64w _ h
theorem wireGet2 (k : Nat) (c d : Nat) (l : List Nat) (hc : c < 256) (hd : d < 256) : wire_Get.f (k + 3) (ofN (c :: d :: l)) 2 = some ((256 * c + d : Nat) : Int) := by
  have ht : (ofN (c :: d :: l)).take (2 : Int).toNat = [(c : Int), (d : Int)] := rfl
  have hl : (2 : Int) ≤ ((ofN (c :: d :: l)).length : Int) := by rw [ofN_length]; simp only [List.length_cons]; omega
  have e1 : IntKind.u64.wrap (0 * 256) = ((0 : Nat) : Int) := by decide
  have e2 : wrap64 (0 + 1) = 1 := by unfold wrap64; omega
  have e3 : wrap64 (1 + 1) = 2 := by unfold wrap64; omega
  have r0 : rd [(c : Int), (d : Int)] 0 = (c : Int) := rfl
  have r1 : rd [(c : Int), (d : Int)] 1 = (d : Int) := rfl
  unfold wire_Get.f
  rw [if_pos (by omega), if_pos hl, ht]
  rw [wire_Get.l0, if_pos (by simp), if_pos (by omega), if_pos (by simp), e1, r0, u64w c (by omega), or64 0 c (by omega) (by omega), Nat.zero_or, e2]
  rw [wire_Get.l0, if_pos (by simp), if_pos (by omega), if_pos (by simp), r1, show (c : Int) * 256 = ((c * 256 : Nat) : Int) by omega, u64w (c * 256) (by omega), u64w d (by omega), or64 _ _ (by omega) (by omega), e3]
  rw [wire_Get.l0, if_neg (by simp)]
  have := Nat.two_pow_add_eq_or_of_lt (i := 8) (b := d) hd c
  rw [show c * 256 = 2 ^ 8 * c by omega, ← this]
theorem f_Get (k : Nat) (l : List Nat) (hl : ∀ x ∈ l, x < 256) (short : Bool) : proto_Get.f (k + 3) (ofN l) short = some (tri (getN l short)) := by
  unfold proto_Get.f
  match l with
  | [] => rfl
  | [c] =>
    have hc := hl c List.mem_cons_self
    have r0 : rd (ofN [c]) 0 = (c : Int) := rfl
    have eb : Go.bits .and .u8 (c : Int) 1 = ((c % 2 : Nat) : Int) := by
      rw [show (1 : Int) = ((1 : Nat) : Int) from rfl, and_u8 c 1 (by omega) (by decide), Nat.and_one_is_mod]
    rw [if_neg (by simp [ofN]), if_pos (by simp [ofN]), r0, eb, u16w c (by omega), f_Right c (by omega)]
    unfold getN
    by_cases h : c % 2 = 0
    · rw [if_pos (by omega), if_pos (by simp [ofN])]; simp [h, tri]
    · rw [if_neg (by omega)]
      cases hr : right c <;> cases short <;> simp [h, tri, hr]
  | c :: d :: l =>
    have hc := hl c List.mem_cons_self
    have hd := hl d (List.mem_cons_of_mem _ List.mem_cons_self)
    have r0 : rd (ofN (c :: d :: l)) 0 = (c : Int) := rfl
    have eb : Go.bits .and .u8 (c : Int) 1 = ((c % 2 : Nat) : Int) := by
      rw [show (1 : Int) = ((1 : Nat) : Int) from rfl, and_u8 c 1 (by omega) (by decide), Nat.and_one_is_mod]
    rw [if_neg (by simp [ofN]; omega), if_pos (by simp [ofN]; omega), r0, eb, u16w c (by omega), f_Right c (by omega)]
    unfold getN
    by_cases h : c % 2 = 0
    · rw [if_pos (by omega), if_neg (by simp [ofN]; omega), wireGet2 k c d l hc hd, Option.bind_some, u16w _ (by omega), f_Right _ (by omega), Option.bind_some]
      cases hr : right (256 * c + d) <;> simp [h, tri, hr]
    · rw [if_neg (by omega)]
      cases hr : right c <;> cases short <;> simp [h, tri, hr]
/-- do octets begin with the address and the control field? -/
def begins (l : List Nat) : Bool := match l with
  | a :: b :: _ => decide (a = 255) && decide (b = 3)
  | _ => false
theorem f_begins (l : List Nat) (hl : ∀ x ∈ l, x < 256) : bytes_HasPrefix.f (ofN l) [255, 3] = some (begins l) := by
  unfold bytes_HasPrefix.f
  match l with
  | [] => simp [begins, ofN]
  | [c] => simp [begins, ofN]
  | c :: d :: l =>
    have hc := hl c List.mem_cons_self
    have hd := hl d (List.mem_cons_of_mem _ List.mem_cons_self)
    have hlen : ((ofN (c :: d :: l)).length : Int) ≥ (([255, 3] : List Int).length : Int) := by rw [ofN_length]; simp only [List.length_cons, List.length_nil]; omega
    have ht : (ofN (c :: d :: l)).take ((([255, 3] : List Int).length : Int) : Int).toNat = [(c : Int), (d : Int)] := rfl
    rw [if_pos hlen, if_pos (by omega), if_pos hlen, ht]
    unfold bytes_Equal.f
    rw [Lib.strOfNums_toList, Lib.strOfNums_toList, Option.bind_some]
    unfold begins Lib.bytesOf
    congr 1
    rw [Bool.eq_iff_iff]
    simp only [List.map_cons, List.map_nil, beq_iff_eq, List.cons.injEq, and_true, Bool.and_eq_true, decide_eq_true_eq, Int.toNat_natCast]
    have hu : ∀ x y : Nat, x < 256 → y < 256 → (UInt8.ofNat x = UInt8.ofNat y ↔ x = y) := by
      intro x y hx hy
      constructor
      · intro h
        have := congrArg UInt8.toNat h
        simpa [UInt8.toNat_ofNat', Nat.mod_eq_of_lt hx, Nat.mod_eq_of_lt hy] using this
      · rintro rfl; rfl
    rw [show (255 : Int).toNat = 255 from rfl, show (3 : Int).toNat = 3 from rfl, hu c 255 hc (by decide), hu d 3 hd (by decide)]
/-- what a config reads of octets that begin with a header -/
def getHead (acfc pfc : Bool) (l : List Nat) : Nat × Nat × Nat :=
  if begins l = false ∧ acfc = false then (0, 0, 7) else
    let t := getN (if begins l = true then l.drop 2 else l) pfc
    if t.2.2 = 0 then (t.1, (if begins l = true then 2 else 0) + t.2.1, 0) else (0, 0, 7)
theorem getN_le (l : List Nat) (s : Bool) : (getN l s).2.1 ≤ 2 := by
  unfold getN
  split
  · simp
  · split
    · split
      · simp
      · split <;> simp
    · split <;> simp
theorem begins_len (l : List Nat) (h : begins l = true) : 2 ≤ l.length := by
  match l, h with
  | a :: b :: l, _ => simp
theorem f_getHead (k : Nat) (a b acfc pfc : Bool) (x y z : Int) (l : List Nat) (hl : ∀ x ∈ l, x < 256) (hlen : l.length < 4611686018427387904) : head_Get.f (k + 3) a b acfc pfc x y z (ofN l) = some (tri (getHead acfc pfc l)) := by
  unfold head_Get.f
  rw [f_begins l hl, Option.bind_some]
  unfold getHead
  by_cases hb : begins l = true
  · have hlen2 := begins_len l hb
    have hcut : cutOf true (ofN l) [255, 3] = ofN (l.drop 2) := by unfold cutOf; rw [if_pos rfl]; exact ofN_drop 2 l
    have h2 := getN_le (l.drop 2) pfc
    simp only [hb, hcut, if_true, Bool.true_eq_false, false_and, if_false, f_Get k _ (fun x hx => hl x (List.mem_of_mem_drop hx)) pfc, Option.bind_some, ofN_length, List.length_drop]
    generalize getN (l.drop 2) pfc = t at *
    obtain ⟨t1, t2, t3⟩ := t
    simp only [tri] at h2 ⊢
    have : wrap64 (wrap64 ((l.length : Int) - ((l.length - 2 : Nat) : Int)) + (t2 : Int)) = ((2 + t2 : Nat) : Int) := by unfold wrap64; omega
    rw [this]
    by_cases h3 : t3 = 0
    · subst h3; rfl
    · have h3' : ¬ (t3 : Int) = 0 := by omega
      simp [tri, h3, h3']
  · have hb' : begins l = false := by simpa using hb
    have hcut : cutOf false (ofN l) [255, 3] = ofN l := by unfold cutOf; rw [if_neg (by decide)]
    simp only [hb', hcut, if_true, true_and, Bool.false_eq_true, if_false, f_Get k _ hl pfc, Option.bind_some, ofN_length]
    have h2 := getN_le l pfc
    cases acfc
    · simp [tri]
    · simp only [Bool.true_eq_false, if_false]
      generalize getN l pfc = t at *
      obtain ⟨t1, t2, t3⟩ := t
      simp only [tri] at h2 ⊢
      have : wrap64 (wrap64 ((l.length : Int) - (l.length : Int)) + (t2 : Int)) = ((0 + t2 : Nat) : Int) := by unfold wrap64; omega
      rw [this]
      by_cases h3 : t3 = 0
      · subst h3; rfl
      · have h3' : ¬ (t3 : Int) = 0 := by omega
        simp [tri, h3, h3']
end Go.Proofs.YtggpejjfgphihaaDoor.Pu
