/- The statement HeadBack, plainly. -/
import Derived.Test.YtggpejjfgphihaaDoorPuHead
import Derived.Test.YtggpejjfgphihaaDoorBx2
namespace Go.Proofs.YtggpejjfgphihaaDoor.Pu
open Go.RowKit Go.Proofs.YtggpejjfgphihaaDoorW.PrintWords Go.Proofs.YtggpejjfgphihaaDoorW.PrintLast Go.Proofs.YtggpejjfgphihaaDoorW.PrintMore
open Go.Proofs.YtggpejjfgphihaaDoor.Given Go.Proofs.YtggpejjfgphihaaDoor.D Go.Proofs.YtggpejjfgphihaaDoor.H Go.Proofs.YtggpejjfgphihaaDoor.B
set_option linter.unusedVariables false
set_option linter.unusedSimpArgs false

theorem speaks10 (k : Nat) : marlinelaw10_speaks.f (k + 10) = some true := by
  unfold marlinelaw10_speaks.f
  have h1 := f_head (k + 7) 33 (by decide) false false true true 0 0 0
  have h2 := f_head (k + 7) 33 (by decide) false false false false 0 0 0
  have q1 := r_Equal (k + 10) [33] [33] (by decide) (by simp)
  have q2 := r_Equal (k + 10) [255, 3, 0, 33] [255, 3, 0, 33] (by decide) (by simp)
  rw [show (33 : Int) = ((33 : Nat) : Int) from rfl, h1, Option.bind_some, show headN true true 33 = [33] by decide]
  rw [show ([((33 : Nat) : Int)] : List Int) = ofN [33] from rfl, q1, Option.bind_some, if_pos (by decide), h2, Option.bind_some, show headN false false 33 = [255, 3, 0, 33] by decide]
  rw [show (255 :: 3 :: 0 :: ofN [33] : List Int) = ofN [255, 3, 0, 33] from rfl, q2]
  rfl
theorem right_odd {p : Nat} (h : right p = true) : p % 2 = 1 ∧ p / 256 % 2 = 0 ∧ p ≠ 255 := by
  simpa [right, and_assoc] using h
theorem getN_num (p : Nat) (hp : p < 65536) (hr : right p = true) (pfc pfc' : Bool) (hle : pfc = true → pfc' = true) (B : List Nat) : getN (numN p pfc ++ B) pfc' = (p, (numN p pfc).length, 0) := by
  obtain ⟨h1, h2, h3⟩ := right_odd hr
  unfold numN
  split
  · rename_i h
    have e : p % 256 = p := Nat.mod_eq_of_lt h.2
    simp [getN, e, h1, hr, hle h.1]
  · have e : 256 * (p / 256) + p % 256 = p := by omega
    simp [getN, h2, e, hr]
theorem begins_num (p : Nat) (hp : p < 65536) (hr : right p = true) (pfc : Bool) (B : List Nat) : begins (numN p pfc ++ B) = false := by
  obtain ⟨h1, h2, h3⟩ := right_odd hr
  unfold numN
  split
  · rename_i h
    have e : p % 256 = p := Nat.mod_eq_of_lt h.2
    rw [e]
    cases B with
    | nil => simp [begins]
    | cons b B => simp [begins, h3]
  · have : p / 256 ≠ 255 := by omega
    simp [begins, this]
/-- a header is read as it was written, by each config that has as much set -/
theorem getHead_back (p : Nat) (hp : p < 65536) (hr : right p = true) (a a' b b' : Bool) (ha : a = true → a' = true) (hb : b = true → b' = true) (B : List Nat) : getHead a' b' (headN a b p ++ B) = (p, (headN a b p).length, 0) := by
  unfold headN
  split
  · rename_i h
    unfold getHead
    rw [begins_num p hp hr b B, ha h.1]
    simp only [Bool.true_eq_false, and_false, if_false, Bool.false_eq_true, getN_num p hp hr b b' hb B]
    simp
  · have hbe : begins (255 :: 3 :: numN p (b && decide (p ≠ 49185)) ++ B) = true := by simp [begins]
    unfold getHead
    rw [hbe]
    have hd : (255 :: 3 :: numN p (b && decide (p ≠ 49185)) ++ B).drop 2 = numN p (b && decide (p ≠ 49185)) ++ B := rfl
    simp only [Bool.true_eq_false, false_and, if_false, if_true, hd, getN_num p hp hr (b && decide (p ≠ 49185)) b' (fun h => hb (by simp at h; exact h.1)) B]
    simp; omega
theorem headN_len (a b : Bool) (p : Nat) : 1 ≤ (headN a b p).length ∧ (headN a b p).length ≤ 4 := by
  unfold headN
  split
  · have := numN_len p b; omega
  · have := numN_len p (b && decide (p ≠ 49185)); simp only [List.length_cons]; omega
theorem back_step (k : Nat) (p : Nat) (hp : p < 65536) (hr : right p = true) (B : List Nat) (hB : ∀ x ∈ B, x < 256) (hl : B.length ≤ 100) (a b : Bool) (cs : List S24) (i : Nat) (hi : i < cs.length) (hn : cs.length = 2) (c : S24) (hc : rd_T24 cs (i : Int) = c)
    (ha : a = true → c.f2 = true) (hb : b = true → c.f3 = true) :
    marlinelaw10_HeadBack.l0 (k + 4) (p : Int) (ofN B) (ofN (headN a b p)) cs (cs.length : Int) (i : Int) = marlinelaw10_HeadBack.l0 (k + 3) (p : Int) (ofN B) (ofN (headN a b p)) cs (cs.length : Int) ((i + 1 : Nat) : Int) := by
  have hlen := headN_len a b p
  have hall : ∀ x ∈ headN a b p ++ B, x < 256 := by
    intro x hx
    rcases List.mem_append.1 hx with hx | hx
    · exact headN_lt a b p hp x hx
    · exact hB x hx
  have hg := f_getHead k c.f0 c.f1 c.f2 c.f3 c.f4 c.f5 c.f6 (headN a b p ++ B) hall (by rw [List.length_append]; omega)
  rw [getHead_back p hp hr a c.f2 b c.f3 ha hb B] at hg
  have e1 : wrap64 ((i : Int) + 1) = ((i + 1 : Nat) : Int) := w64 (i + 1) (by omega)
  rw [marlinelaw10_HeadBack.l0, if_pos (by omega), if_pos (by omega), if_pos (by omega), Option.bind_some, if_pos (by simp [ofN_length]; omega), Option.bind_some, List.nil_append, if_pos (by rw [ofN_length, ofN_length]; omega), hc, ← ofN_append, hg, Option.bind_some]
  simp only [tri, ofN_length]
  rw [if_pos (show ((0 : Nat) : Int) = 0 from rfl), if_pos trivial, if_pos trivial, e1]
theorem back_j1 (k : Nat) (p : Nat) (hp : p < 65536) (hr : right p = true) (B : List Nat) (hB : ∀ x ∈ B, x < 256) (hl : B.length ≤ 100) (c0 c1 a b : Bool) (c4 c5 c6 : Int) (d0 d1 d2 pfc : Bool) (d4 d5 d6 : Int) (hd2 : a = true → d2 = true) (d3 : Bool) :
    marlinelaw10_HeadBack.j1 (k + 8) (p : Int) (ofN B) pfc (ofN (headN a b p)) c0 c1 a b c4 c5 c6 d0 d1 d2 d3 d4 d5 d6 = some true := by
  have hlen := headN_len a b p
  have key : ∀ e3 : Bool, (b = true → e3 = true) → marlinelaw10_HeadBack.j2 (k + 7) (p : Int) (ofN B) (ofN (headN a b p)) c0 c1 a b c4 c5 c6 d0 d1 d2 e3 d4 d5 d6 = some true := by
    intro e3 he
    rw [marlinelaw10_HeadBack.j2, Option.bind_some]
    have s0 := back_step (k + 2) p hp hr B hB hl a b [⟨c0, c1, a, b, c4, c5, c6⟩, ⟨d0, d1, d2, e3, d4, d5, d6⟩] 0 (by simp) rfl _ rfl id id
    have s1 := back_step (k + 1) p hp hr B hB hl a b [⟨c0, c1, a, b, c4, c5, c6⟩, ⟨d0, d1, d2, e3, d4, d5, d6⟩] 1 (by simp) rfl _ rfl hd2 he
    refine Eq.trans s0 (Eq.trans s1 ?_)
    rw [marlinelaw10_HeadBack.l0, if_neg (by simp), ofN_length, if_pos (by omega)]
    congr 1
    exact decide_eq_true (by omega)
  rw [marlinelaw10_HeadBack.j1]
  cases b
  · rw [if_neg (by decide)]; exact key pfc (fun h => by cases h)
  · rw [if_pos rfl]; exact key true (fun _ => rfl)
theorem headBack_f (a0 a1 a b : Bool) (c4 c5 c6 : Int) (x : Int) (hx : 0 ≤ x ∧ x < 65536) (l : List Int) (hl : l.all okByte = true) (acfc pfc : Bool) : marlinelaw10_HeadBack.f 50 a0 a1 a b c4 c5 c6 x l acfc pfc = some true := by
  rw [ofN_of hl]
  have hB := bytes_of hl
  generalize l.map Int.toNat = B at *
  obtain ⟨p, rfl⟩ := Int.eq_ofNat_of_zero_le hx.1
  have hp : p < 65536 := by omega
  have sp := fun k => speaks10 k
  unfold marlinelaw10_HeadBack.f
  have hdone : ∀ c2 c3, marlinelaw10_HeadBack.j0 50 (p : Int) (ofN B) acfc pfc true a0 a1 c2 c3 c4 c5 c6 = some true := by
    intro c2 c3
    rw [marlinelaw10_HeadBack.j0, if_pos rfl, speaks10 39]; rfl
  rw [speaks10 40, Option.bind_some, if_pos rfl, ofN_length]
  by_cases h : B.length > 100
  · rw [if_pos (by omega)]; exact hdone a b
  · rw [if_neg (by omega), w64 p (by omega), r_Right p hp, Option.bind_some]
    by_cases hr : right p = true
    · rw [hr]
      rw [show (!true) = false from rfl, marlinelaw10_HeadBack.j0, if_neg (by decide), f_head 46 p hp, Option.bind_some]
      have hl2 : B.length ≤ 100 := by omega
      cases a
      · rw [if_neg (by decide)]; exact back_j1 41 p hp hr B hB hl2 a0 a1 false b c4 c5 c6 a0 a1 acfc pfc c4 c5 c6 (fun h => by cases h) b
      · rw [if_pos rfl]; exact back_j1 41 p hp hr B hB hl2 a0 a1 true b c4 c5 c6 a0 a1 true pfc c4 c5 c6 (fun _ => rfl) b
    · rw [show right p = false by simpa using hr]; exact hdone a b
end Go.Proofs.YtggpejjfgphihaaDoor.Pu
