/- What the walk of ConfigFits leans on: the plain law, and how three configs lie in memory. -/
import Derived.Test.YtggpejjfgphihaaDoorWkCfg
import Derived.Test.YtggpejjfgphihaaDoorFx1
namespace Go.Proofs.YtggpejjfgphihaaDoor.Wk
open Go.Proofs.YtggpejjfgphihaaDoor.Given Go.Proofs.YtggpejjfgphihaaDoor.C Go.Proofs.YtggpejjfgphihaaDoor.F Go.Proofs.YtggpejjfgphihaaDoor.Pu Go.RowKit Go.Proofs.YtggpejjfgphihaaDoorW.PrintWords
set_option linter.unusedVariables false

theorem fitsV_default : fitsV false false false false 4294967295 1500 false false false false 4294967295 1500 = true := by
  have : within 4294967295 4294967295 = true := by decide +kernel
  simp [fitsV, this]
theorem within_self (A : Nat) (h : A < 4294967296) : within (A : Int) (A : Int) = true := by
  rw [within_eq A A h h, withinN_iff]
  exact fun _ _ _ h => h
theorem fitsV_same (a0 a1 a2 a3 : Bool) (A : Nat) (a6 : Int) (h : A < 4294967296) : fitsV a0 a1 a2 a3 (A : Int) a6 a0 a1 a2 a3 (A : Int) a6 = true := by
  simp [fitsV, within_self A h]
theorem fits_on (a0 a1 a2 a3 : Bool) (a4 a6 : Int) (b0 b1 b2 b3 : Bool) (b4 b6 : Int) (c0 c1 c2 c3 : Bool) (c5 c6 : Int)
    (h1 : fitsV a0 a1 a2 a3 a4 a6 b0 b1 b2 b3 b4 b6 = true) (h2 : fitsV b0 b1 b2 b3 b4 b6 c0 c1 c2 c3 c5 c6 = true)
    (h3 : fitsV a0 a1 a2 a3 a4 a6 c0 c1 c2 c3 c5 c6 = false) : a0 = false ∧ ((Go.bits .andNot .u32 c5 a4) != 0) = true := by
  simp only [fitsV, Bool.and_eq_true, beq_iff_eq, decide_eq_true_eq] at h1 h2
  obtain ⟨⟨⟨⟨⟨rfl, rfl⟩, p2⟩, p3⟩, p4⟩, p5⟩ := h1
  obtain ⟨⟨⟨⟨⟨rfl, rfl⟩, q2⟩, q3⟩, q4⟩, q5⟩ := h2
  have e : within c5 a4 = false ∧ a0 = false := by
    have h6 : a6 ≤ c6 := by omega
    cases a0 <;> cases a2 <;> cases a3 <;> cases b2 <;> cases b3 <;> cases c2 <;> cases c3 <;> cases hw : within c5 a4 <;> simp_all [fitsV]
  exact ⟨e.2, by have := e.1; unfold within at this; rw [bne, this]; rfl⟩

theorem three_cells {w w1 : World} {c d e : Array Value} {t u v : TypeId} (hb : Below (((w.alloc (.cells c t)).alloc (.cells d u)).alloc (.cells e v)).heap.size (((w.alloc (.cells c t)).alloc (.cells d u)).alloc (.cells e v)) w1) :
    (∀ j, w1.cell? ⟨w.heap.size, j, none⟩ = c[j]?) ∧ (∀ j, w1.cell? ⟨w.heap.size + 1, j, none⟩ = d[j]?) ∧ (∀ j, w1.cell? ⟨w.heap.size + 1 + 1, j, none⟩ = e[j]?) := by
  have hs1 : (w.alloc (.cells c t)).heap.size = w.heap.size + 1 := by simp
  have hs2 : ((w.alloc (.cells c t)).alloc (.cells d u)).heap.size = w.heap.size + 1 + 1 := by simp
  have hs3 : (((w.alloc (.cells c t)).alloc (.cells d u)).alloc (.cells e v)).heap.size = w.heap.size + 1 + 1 + 1 := by simp
  refine ⟨fun j => ?_, fun j => ?_, fun j => ?_⟩
  · rw [hb.cell (p := ⟨w.heap.size, j, none⟩) (by rw [hs3]; show w.heap.size < _; omega)]
    exact cell_of_row _ _ j c t (0, 0) (by rw [heap_alloc_old _ _ (by omega), heap_alloc2_old])
  · rw [hb.cell (p := ⟨w.heap.size + 1, j, none⟩) (by rw [hs3]; show w.heap.size + 1 < _; omega)]
    exact cell_of_row _ _ j d u (0, 0) (by rw [heap_alloc_old _ _ (by omega), heap_alloc2_new])
  · rw [hb.cell (p := ⟨w.heap.size + 1 + 1, j, none⟩) (by rw [hs3]; show w.heap.size + 1 + 1 < _; omega)]
    exact cell_of_row _ _ j e v (0, 0) (by have := heap_alloc_new ((w.alloc (.cells c t)).alloc (.cells d u)) (.cells e v); rwa [hs2] at this)
theorem three_below {w w1 : World} {o p q : Obj} (hb : Below (((w.alloc o).alloc p).alloc q).heap.size (((w.alloc o).alloc p).alloc q) w1) : Below w.heap.size w w1 ∧ w.heap.size + 1 + 1 < w1.heap.size := by
  refine ⟨below_then ((((Below.refl _ _).alloc (Nat.le_refl _) _).alloc (by simp) _).alloc (by simp; omega) _) (by simp; omega) hb, ?_⟩
  have := hb.size; simp at this; omega
/-- a config lies at block b, which may be written -/
structure CfgW (w : World) (b : Nat) (a0 a1 a2 a3 : Bool) (a4 a5 a6 : Int) : Prop where
  c : Cfg w b a0 a1 a2 a3 a4 a5 a6
  f : w.frozen? ⟨b, 5, none⟩ = false
theorem CfgW.below {w w1 : World} {b : Nat} {a0 a1 a2 a3 : Bool} {a4 a5 a6 : Int} (h : CfgW w b a0 a1 a2 a3 a4 a5 a6) (hb : Below w.heap.size w w1) : CfgW w1 b a0 a1 a2 a3 a4 a5 a6 :=
  ⟨h.c.below hb, (hb.frozen (p := ⟨b, 5, none⟩) (World.block_lt_of_cell? w _ h.c.c5)).trans h.f⟩
theorem CfgW.of_row {w : World} {b : Nat} {t : TypeId} {a0 a1 a2 a3 : Bool} {a4 a5 a6 : Int} (h : w.heap[b]? = some (.cells #[.bool a0, .bool a1, .bool a2, .bool a3, .int .u32 a4, .int .u32 a5, .int .i64 a6] t (0, 0))) : CfgW w b a0 a1 a2 a3 a4 a5 a6 := by
  have k : ∀ j, w.cell? ⟨b, j, none⟩ = (#[.bool a0, .bool a1, .bool a2, .bool a3, .int .u32 a4, .int .u32 a5, .int .i64 a6] : Array Value)[j]? := fun j => cell_of_row _ _ j _ t (0, 0) h
  exact ⟨⟨k 0, k 1, k 2, k 3, k 4, k 5, k 6⟩, by simp [World.frozen?, h]⟩
theorem row3_0 (w : World) (o p q : Obj) : (((w.alloc o).alloc p).alloc q).drew.heap[w.heap.size]? = some o := by
  show (((w.alloc o).alloc p).alloc q).heap[w.heap.size]? = _
  rw [heap_alloc_old _ _ (by simp; omega), heap_alloc2_old]
theorem row3_1 (w : World) (o p q : Obj) : (((w.alloc o).alloc p).alloc q).drew.heap[w.heap.size + 1]? = some p := by
  show (((w.alloc o).alloc p).alloc q).heap[w.heap.size + 1]? = _
  rw [heap_alloc_old _ _ (by simp), heap_alloc2_new]
theorem row3_2 (w : World) (o p q : Obj) : (((w.alloc o).alloc p).alloc q).drew.heap[w.heap.size + 1 + 1]? = some q := by
  show (((w.alloc o).alloc p).alloc q).heap[w.heap.size + 1 + 1]? = _
  have := heap_alloc_new ((w.alloc o).alloc p) q
  have e : ((w.alloc o).alloc p).heap.size = w.heap.size + 1 + 1 := by simp
  rwa [e] at this
theorem below3 (w : World) (o p q : Obj) : Below w.heap.size w (((w.alloc o).alloc p).alloc q).drew :=
  ((((Below.refl _ _).alloc (Nat.le_refl _) _).alloc (by simp) _).alloc (by simp; omega) _).drew
theorem Cfg.other {w : World} {b y : Nat} {v : Value} {a0 a1 a2 a3 : Bool} {a4 a5 a6 : Int} (h : Cfg w b a0 a1 a2 a3 a4 a5 a6) (hne : b ≠ y) : Cfg (w.setCell ⟨y, 5, none⟩ v) b a0 a1 a2 a3 a4 a5 a6 := by
  have k : ∀ j, (w.setCell ⟨y, 5, none⟩ v).cell? ⟨b, j, none⟩ = w.cell? ⟨b, j, none⟩ := fun j => World.cell?_setCell_other w ⟨y, 5, none⟩ ⟨b, j, none⟩ v (fun e => hne (congrArg Addr.block e).symm)
  exact ⟨(k 0).trans h.c0, (k 1).trans h.c1, (k 2).trans h.c2, (k 3).trans h.c3, (k 4).trans h.c4, (k 5).trans h.c5, (k 6).trans h.c6⟩
theorem Cfg.set5 {w : World} {y : Nat} {n : Int} {a0 a1 a2 a3 : Bool} {a4 a5 a6 : Int} (h : Cfg w y a0 a1 a2 a3 a4 a5 a6) : Cfg (w.setCell ⟨y, 5, none⟩ (.int .u32 n)) y a0 a1 a2 a3 a4 n a6 := by
  have k : ∀ j, j ≠ 5 → (w.setCell ⟨y, 5, none⟩ (.int .u32 n)).cell? ⟨y, j, none⟩ = w.cell? ⟨y, j, none⟩ := fun j hj => World.cell?_setCell_other w ⟨y, 5, none⟩ ⟨y, j, none⟩ _ (fun e => hj (congrArg Addr.off e).symm)
  exact ⟨(k 0 (by decide)).trans h.c0, (k 1 (by decide)).trans h.c1, (k 2 (by decide)).trans h.c2, (k 3 (by decide)).trans h.c3, (k 4 (by decide)).trans h.c4, World.cell?_setCell_same w _ _ h.c5, (k 6 (by decide)).trans h.c6⟩

theorem s_three {wc W : World} {x y z : Nat} {a0 a1 a2 a3 : Bool} {a4 a5 a6 : Int} {b0 b1 b2 b3 : Bool} {b4 b5 b6 : Int} {c0 c1 c2 c3 : Bool} {c4 c5 c6 : Int} (hx : Cfg wc x a0 a1 a2 a3 a4 a5 a6) (hy : Cfg wc y b0 b1 b2 b3 b4 b5 b6) (hz : Cfg wc z c0 c1 c2 c3 c4 c5 c6) (h0 : Below wc.heap.size wc W) :
    W.cell? ⟨x, 0, none⟩ = some (.bool a0) ∧ W.cell? ⟨x, 1, none⟩ = some (.bool a1) ∧ W.cell? ⟨x, 2, none⟩ = some (.bool a2) ∧ W.cell? ⟨x, 3, none⟩ = some (.bool a3) ∧ W.cell? ⟨x, 4, none⟩ = some (.int .u32 a4) ∧ W.cell? ⟨x, 5, none⟩ = some (.int .u32 a5) ∧ W.cell? ⟨x, 6, none⟩ = some (.int .i64 a6) ∧ W.cell? ⟨y, 0, none⟩ = some (.bool b0) ∧ W.cell? ⟨y, 1, none⟩ = some (.bool b1) ∧ W.cell? ⟨y, 2, none⟩ = some (.bool b2) ∧ W.cell? ⟨y, 3, none⟩ = some (.bool b3) ∧ W.cell? ⟨y, 4, none⟩ = some (.int .u32 b4) ∧ W.cell? ⟨y, 5, none⟩ = some (.int .u32 b5) ∧ W.cell? ⟨y, 6, none⟩ = some (.int .i64 b6) ∧ W.cell? ⟨z, 0, none⟩ = some (.bool c0) ∧ W.cell? ⟨z, 1, none⟩ = some (.bool c1) ∧ W.cell? ⟨z, 2, none⟩ = some (.bool c2) ∧ W.cell? ⟨z, 3, none⟩ = some (.bool c3) ∧ W.cell? ⟨z, 4, none⟩ = some (.int .u32 c4) ∧ W.cell? ⟨z, 5, none⟩ = some (.int .u32 c5) ∧ W.cell? ⟨z, 6, none⟩ = some (.int .i64 c6) := by
  have p := hx.below h0
  have q := hy.below h0
  have r := hz.below h0
  exact ⟨p.c0, p.c1, p.c2, p.c3, p.c4, p.c5, p.c6, q.c0, q.c1, q.c2, q.c3, q.c4, q.c5, q.c6, r.c0, r.c1, r.c2, r.c3, r.c4, r.c5, r.c6⟩
end Go.Proofs.YtggpejjfgphihaaDoor.Wk
