/- 'make([]byte, 0, n)': an empty row of the call's own. -/
import Derived.Test.YtggpejjfgphihaaDoorWWords
import Derived.Test.YtggpejjfgphihaaDoorProg
import Derived.OwnWalk
namespace Go.Proofs.YtggpejjfgphihaaDoor.Given
open Go.RowKit Go.Proofs.YtggpejjfgphihaaDoorW.PrintWords
set_option linter.unusedVariables false
theorem R_make0 {P : Program} {ops : Array Oper} {rest : List Oper} {o : Oper} {a : Act} {Q : Exit → Act → World → Prop} {w0 W : World} (base e : Nat) (hgd : o.guard = none) {N : Tmp} (hd : o.dst = some N) (t : TypeId) (x y : Operand) (ho : o.op = .makeSlice t x y) (n : Int) (hx : a.eval x = .int .i64 0) (hy : a.eval y = .int .i64 n)
    (ht : P.underlying t = some (.slice e)) (hinfo : (P.info? e).map (fun i => (i.zero, i.size, i.bytes)) = some (some (.int .u8 0), 1, 1))
    {ok : Nat → Prop} (hfresh : ok W.heap.size) (h0 : 0 ≤ n) (hl : n.toNat ≤ 281474976710656) (HB : Below base w0 W) (hbase : base ≤ W.heap.size)
    (h : ∀ v1 w1, (Kd.int .u8).R e w1 base ok v1 [] → Below base w0 w1 → W.grownBy w1 none → (∃ b, v1.ownBlock = some b ∧ W.heap.size ≤ b) → wpList P ops Q rest (a.put o.dst v1) w1) : wpList P ops Q (o :: rest) a W := by
  obtain ⟨m, rfl⟩ := Int.eq_ofNat_of_zero_le h0
  simp only [Int.toNat_natCast] at hl
  obtain ⟨i0, hi, hzz⟩ := Option.map_eq_some_iff.1 hinfo
  simp only [Prod.mk.injEq] at hzz
  obtain ⟨hz0, hz1, hz2⟩ := hzz
  refine wpList_make_own W hgd x y t ho base e i0 (.int .u8 0) 1 ht hi hz0 hz1 .i64 .i64 (m : Int) m hx hy rfl (by rw [hz2]; omega) (by simp only [maxLen]; omega) hbase ?_
  intro w' hown hg
  refine h _ w' (Kd.R_of_own (h1 := fun _ => rfl) (xs := ([] : List Int)) hown (fun k hk => ?_)) (HB.grown hg hbase (fun k hk => by cases hk)) hg ⟨W.heap.size, rfl, Nat.le_refl _⟩
  have : W.heap.size = k := by simpa [Value.ownBlock] using hk
  exact this ▸ hfresh
end Go.Proofs.YtggpejjfgphihaaDoor.Given
