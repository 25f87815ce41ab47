/- The statement FcsResidue: plainly, and its walk in the row's order. -/
import Derived.Test.YtggpejjfgphihaaDoorPuFcs
import Derived.Test.YtggpejjfgphihaaDoorRx
namespace Go.Proofs.YtggpejjfgphihaaDoor.Wk
open Go.RowKit Go.Proofs.YtggpejjfgphihaaDoorW.PrintWords Go.Proofs.YtggpejjfgphihaaDoorW.PrintLast Go.Proofs.YtggpejjfgphihaaDoorW.PrintMore
open Go.Proofs.YtggpejjfgphihaaDoor.Given Go.Proofs.YtggpejjfgphihaaDoor.Crc Go.Proofs.YtggpejjfgphihaaDoor.D Go.Proofs.YtggpejjfgphihaaDoor.Pu Go.Proofs.YtggpejjfgphihaaDoor.Q
set_option linter.unusedVariables false

theorem residue_j2 (k : Nat) (a0 : Bool) (B O : List Nat) (hB : ∀ x ∈ B, x < 256) (hO : ∀ x ∈ O, x < 256) (hl : B.length ≤ 400) (h4 : O.length = 4) :
    marlinelaw02_FcsResidue.j2 (k + 10) (ofN B) a0 (ofN O) (ofN (trailerN a0 B)) ((goodN a0 : Nat) : Int) false = some true := by
  have hsz : 2 ≤ sizeN a0 ∧ sizeN a0 ≤ 4 := by cases a0 <;> decide
  have hT : ∀ x ∈ O.take (sizeN a0), x < 256 := fun x hx => hO x (List.mem_of_mem_take hx)
  have hlT : (O.take (sizeN a0)).length = sizeN a0 := by rw [List.length_take]; omega
  have hall : ∀ x ∈ B ++ O.take (sizeN a0), x < 256 := by
    intro x hx
    rcases List.mem_append.1 hx with hx | hx
    · exact hB x hx
    · exact hT x hx
  rw [marlinelaw02_FcsResidue.j2, if_neg (by decide), ofN_length, ofN_length, trailerN_length, if_pos (by omega), if_pos (by omega), Int.toNat_natCast, ofN_take, r_Equal _ _ _ (by omega) (by omega), Option.bind_some]
  by_cases h : O.take (sizeN a0) = trailerN a0 B
  · rw [if_pos (decide_eq_true h)]
  · rw [if_neg (by rw [decide_eq_false h]; decide), f_Start, Option.bind_some, Option.bind_some, if_pos (by rw [ofN_length]; simp; omega), Option.bind_some, List.nil_append, if_pos (by rw [ofN_length, ofN_length, hlT]; omega), ← ofN_append,
      f_More a0 _ (by cases a0 <;> decide) _ hall, Option.bind_some, show (widthOf a0 - 1) % widthOf a0 = widthOf a0 - 1 by cases a0 <;> decide]
    have hr := fun e => h ((residue a0 B _ hB hT hlT).1 e)
    simp only [Option.some.injEq, bne_iff_ne, ne_eq]
    intro e
    exact hr (by omega)
theorem residue_j1 (k : Nat) (a0 : Bool) (B O : List Nat) (hB : ∀ x ∈ B, x < 256) (hO : ∀ x ∈ O, x < 256) (hl : B.length ≤ 400) (h4 : O.length = 4) :
    marlinelaw02_FcsResidue.j1 (k + 11) (ofN B) a0 (ofN O) (ofN (trailerN a0 B)) ((goodN a0 : Nat) : Int) = some true := by
  have hsz : 2 ≤ sizeN a0 ∧ sizeN a0 ≤ 4 := by cases a0 <;> decide
  have hall : ∀ x ∈ B ++ trailerN a0 B, x < 256 := by
    intro x hx
    rcases List.mem_append.1 hx with hx | hx
    · exact hB x hx
    · exact trailerN_lt a0 B x hx
  rw [marlinelaw02_FcsResidue.j1, f_Size, Option.bind_some, ofN_length, trailerN_length, if_pos rfl, if_neg (by omega), f_Start, Option.bind_some, Option.bind_some, if_pos (by rw [ofN_length]; simp; omega), Option.bind_some, List.nil_append,
    if_pos (by rw [ofN_length]; omega), ← ofN_append, f_More a0 _ (by cases a0 <;> decide) _ hall, Option.bind_some, show (widthOf a0 - 1) % widthOf a0 = widthOf a0 - 1 by cases a0 <;> decide, more_good a0 B hB]
  rw [show ((((goodN a0 : Nat) : Int) != ((goodN a0 : Nat) : Int)) = false) by simp]
  exact residue_j2 k a0 B O hB hO hl h4
theorem fcsResidue_f (l m : List Int) (hl : l.all okByte = true) (hm : m.all okByte = true) (h4 : m.length = 4) (a0 : Bool) : marlinelaw02_FcsResidue.f 50 l a0 m = some true := by
  have h4' : (m.map Int.toNat).length = 4 := by rw [List.length_map]; exact h4
  rw [ofN_of hl, ofN_of hm]
  have hB := bytes_of hl
  have hO := bytes_of hm
  generalize l.map Int.toNat = B at *
  generalize m.map Int.toNat = O at *
  unfold marlinelaw02_FcsResidue.f
  rw [show marlinelaw02_speaks.f = some true from rfl, Option.bind_some, if_pos rfl, marlinelaw02_FcsResidue.j0, ofN_length]
  by_cases h : B.length > 400
  · rw [if_pos (by simp; omega)]; rfl
  · rw [if_neg (by simp; omega), f_Trailer 44 a0 B hB, Option.bind_some]
    have := residue_j1 38 a0 B O hB hO (by omega) h4'
    cases a0
    · rw [if_neg (by decide)]; exact this
    · rw [if_pos rfl]; exact this
theorem residue_walk (A : Option Addr) (cap : Nat) (l : List Int) (a1 : Bool) (x0 x1 x2 x3 : Int) (w : World) (hgF : GF w) (hr : Kd.C (Kd.int .u8) w A l.length l) (hc : l.length ≤ cap) (hb : l.all okByte = true)
    (h0 : 0 ≤ x0 ∧ x0 < 256) (h1 : 0 ≤ x1 ∧ x1 < 256) (h2 : 0 ≤ x2 ∧ x2 < 256) (h3 : 0 ≤ x3 ∧ x3 < 256) :
    Calls Tryd.prog 9 #[.slice A l.length cap, .bool a1, .agg #[.int .u8 x0, .int .u8 x1, .int .u8 x2, .int .u8 x3]] w fun e w' => e = .returned (.bool true) ∧ Below w.heap.size w w' :=
  marlinelaw02_FcsResidue.calls 50 A cap l a1 x0 x1 x2 x3 true w hr hc hgF (fcsResidue_f l [x0, x1, x2, x3] hb (by simp [okByte, h0, h1, h2, h3]) rfl a1)
end Go.Proofs.YtggpejjfgphihaaDoor.Wk
