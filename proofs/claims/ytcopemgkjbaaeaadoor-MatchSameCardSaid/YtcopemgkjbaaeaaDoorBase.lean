/-
  Words on memory that all walks of this claim use: how a world may have grown; cells of a block that is known whole.
-/
import Derived.WalkKit
import Derived.Below
import Derived.Lib.Hide
import Derived.BigRegion
import Derived.BigQuiet
import Derived.Deep.QuietTactic
import Derived.Deep.RegionHeld3
import Derived.StillTailTactics
import Derived.Deep.Draws
import Derived.Deep.DeepCutAuto
import Derived.Deep.CutBlock
import Derived.Outline
import Derived.Handy
import Derived.Deep.LoopGhost
import Derived.Maps.AppendAt
import Derived.Deep.AppendLies
import Derived.Test.YtcopemgkjbaaeaaDoorProg
import Derived.Test.YtcopemgkjbaaeaaDoorPure
namespace Go.Proofs.YtcopemgkjbaaeaaDoor
set_option linter.all false
open Go.RowKit

theorem w64 (x : Int) : IntKind.i64.wrap x = wrap64 x := by unfold wrap64; exact IntKind.wrap_i64 x
@[simp, go_sem] theorem lt_step {n m : Nat} (h : n < m) : (n < m + 1) = True := eq_true (by omega)
@[simp, go_sem] theorem le_step {n m : Nat} (h : n ≤ m) : (n ≤ m + 1) = True := eq_true (by omega)
@[simp, go_sem] theorem eq_step {n m : Nat} (h : n < m + 1) : (n = m + 1 + 1) = False := eq_false (by omega)
@[simp, go_sem] theorem eq_step' {n m : Nat} (h : n < m + 1) : (m + 1 + 1 = n) = False := eq_false (by omega)

attribute [go_sem] Tal.v Ent.v

/-- w' is w, grown: no block that was there has turned, but those of X. -/
structure Ext (X : List Nat) (w w' : World) : Prop where
  os : w'.os = w.os
  tape : w'.tape = w.tape
  output : w'.output = w.output
  size : w.heap.size ≤ w'.heap.size
  block : ∀ k, k < w.heap.size → k ∉ X → w'.heap[k]? = w.heap[k]?

section
variable {X Y : List Nat} {a b c w w' : World}
theorem Ext.refl (X : List Nat) (w : World) : Ext X w w := ⟨rfl, rfl, rfl, Nat.le_refl _, fun _ _ _ => rfl⟩
theorem Ext.trans (h : Ext X a b) (k : Ext X b c) : Ext X a c :=
  ⟨k.os.trans h.os, k.tape.trans h.tape, k.output.trans h.output, Nat.le_trans h.size k.size,
    fun i hi hx => (k.block i (Nat.lt_of_lt_of_le hi h.size) hx).trans (h.block i hi hx)⟩
theorem Ext.mono (h : Ext X a b) (hs : ∀ k, k < a.heap.size → k ∈ X → k ∈ Y) : Ext Y a b :=
  ⟨h.os, h.tape, h.output, h.size, fun i hi hy => h.block i hi fun hx => hy (hs i hi hx)⟩
theorem Ext.nil (h : Ext [] a b) : Ext X a b := h.mono (by simp)
theorem Ext.of_below (h : Below a.heap.size a b) : Ext [] a b := ⟨h.os, h.tape, h.output, h.size, fun k hk _ => h.block k hk⟩
theorem Ext.below (h : Ext [] a b) : Below a.heap.size a b := ⟨h.os, h.tape, h.output, h.size, fun k hk => h.block k hk (by simp)⟩
theorem Ext.drew (h : Ext X a w) : Ext X a w.drew := ⟨h.os, h.tape, h.output, h.size, h.block⟩
theorem Ext.drewN (h : Ext X a w) (n : Nat) : Ext X a (w.drewN n) := ⟨h.os, h.tape, h.output, h.size, h.block⟩
theorem Ext.alloc (h : Ext X a w) (o : Obj) : Ext X a (w.alloc o) :=
  h.trans ⟨rfl, rfl, rfl, by simp, fun k hk _ => Below.heap_alloc _ _ _ hk⟩
theorem Ext.setCell (h : Ext X a w) {p : Addr} (hp : p.block ∈ X ∨ a.heap.size ≤ p.block) (u : Value) : Ext X a (w.setCell p u) :=
  ⟨h.os, h.tape, h.output, by simpa [World.setCell] using h.size, fun k hk hx => (Below.heap_setCell _ _ _ _ (by
    rintro rfl
    rcases hp with hp | hp
    · exact hx hp
    · omega)).trans (h.block k hk hx)⟩
theorem Ext.grown (h : Ext X a w) {row : Option Nat} (hg : w.grownBy w' row) (hr : ∀ k, row = some k → k ∈ X ∨ a.heap.size ≤ k) : Ext X a w' :=
  ⟨hg.os.trans h.os, hg.tape.trans h.tape, hg.output.trans h.output, Nat.le_trans h.size hg.size, fun k hk hx =>
    (hg.block k (Nat.lt_of_lt_of_le hk h.size) (fun e => by
      rcases hr k e.symm with h1 | h1
      · exact hx h1
      · omega)).trans (h.block k hk hx)⟩
theorem Ext.blk (h : Ext X a b) {k : Nat} {o : Obj} (hk : a.heap[k]? = some o) (hx : k ∉ X) : b.heap[k]? = some o :=
  (h.block k (by
    rcases Nat.lt_or_ge k a.heap.size with hlt | hge
    · exact hlt
    · rw [Array.getElem?_eq_none hge] at hk; cases hk) hx).trans hk
theorem Ext.rules (h : Ext X a b) :
    (∀ k o, k < a.heap.size → k ∉ X → b.cell? ⟨k, o, none⟩ = a.cell? ⟨k, o, none⟩) ∧ (∀ k o, k < a.heap.size → k ∉ X → b.frozen? ⟨k, o, none⟩ = a.frozen? ⟨k, o, none⟩) :=
  ⟨fun k o hk hx => World.cell?_of_block (a := ⟨k, o, none⟩) (h.block k hk hx), fun k o hk hx => World.frozen?_of_block (a := ⟨k, o, none⟩) (h.block k hk hx)⟩
theorem Ext.rules0 (h : Ext [] a b) :
    (∀ k o, k < a.heap.size → b.cell? ⟨k, o, none⟩ = a.cell? ⟨k, o, none⟩) ∧ (∀ k o, k < a.heap.size → b.frozen? ⟨k, o, none⟩ = a.frozen? ⟨k, o, none⟩) :=
  ⟨fun k o hk => h.rules.1 k o hk (by simp), fun k o hk => h.rules.2 k o hk (by simp)⟩
end

/-- Block g is just these cells of element type t. -/
def Blk (w : World) (g : Nat) (t : TypeId) (cs : Array Value) : Prop := w.heap[g]? = some (.cells cs t (0, 0))

section
variable {w w' : World} {g : Nat} {t : TypeId} {cs : Array Value}
theorem Blk.lt (h : Blk w g t cs) : g < w.heap.size := by
  rcases Nat.lt_or_ge g w.heap.size with hlt | hge
  · exact hlt
  · unfold Blk at h; rw [Array.getElem?_eq_none hge] at h; cases h
theorem Blk.cell (h : Blk w g t cs) (i : Nat) : w.cell? ⟨g, i, none⟩ = cs[i]? := cell_of_row w g i cs t (0, 0) h
theorem Blk.frozen (h : Blk w g t cs) (i : Nat) : w.frozen? ⟨g, i, none⟩ = false := by
  unfold Blk at h
  simp [World.frozen?, h]
theorem Blk.new (w : World) (t : TypeId) (cs : Array Value) : Blk (w.alloc (.cells cs t)) w.heap.size t cs := heap_alloc_new w _
theorem Blk.alloc (h : Blk w g t cs) (o : Obj) : Blk (w.alloc o) g t cs := (Below.heap_alloc w o g h.lt).trans h
theorem Blk.set_ (h : Blk w g t cs) (i : Nat) (u : Value) : Blk (w.setCell ⟨g, i, none⟩ u) g t (cs.setIfInBounds i u) := by
  unfold Blk at h ⊢
  simp [World.setCell, Array.getElem?_modify, h]
theorem Blk.far (h : Blk w g t cs) {p : Addr} (hp : g ≠ p.block) (u : Value) : Blk (w.setCell p u) g t cs := (Below.heap_setCell w p u g hp).trans h
theorem Blk.ext {X : List Nat} (h : Blk w g t cs) (hb : Ext X w w') (hg : g ∉ X) : Blk w' g t cs := hb.blk h hg
theorem Blk.via {X : List Nat} {w1 : World} (h : Blk w g t cs) (hb : Ext X w1 w') (hh : w1.heap = w.heap) (hg : g ∉ X) : Blk w' g t cs :=
  hb.blk (by rw [hh]; exact h) hg
theorem Ext.from {X Y : List Nat} {a w1 : World} (h : Ext X a w) (hb : Ext Y w1 w') (hh : w1.heap = w.heap) (ho : w1.os = w.os) (ht : w1.tape = w.tape) (hu : w1.output = w.output)
    (hY : ∀ k, k ∈ Y → k ∈ X ∨ a.heap.size ≤ k) : Ext X a w' :=
  ⟨hb.os.trans (ho.trans h.os), hb.tape.trans (ht.trans h.tape), hb.output.trans (hu.trans h.output), Nat.le_trans h.size (by have := hb.size; rw [hh] at this; exact this),
    fun k hk hx => (hb.block k (by rw [hh]; exact Nat.lt_of_lt_of_le hk h.size) (fun hy => by
      rcases hY k hy with h1 | h1
      · exact hx h1
      · omega)).trans (by rw [hh]; exact h.block k hk hx)⟩
theorem Blk.ne_ {g' : Nat} {t' : TypeId} {cs' : Array Value} (h : Blk w g t cs) (h' : Blk w g' t' cs') (hne : t ≠ t') : g ≠ g' := by
  rintro rfl
  unfold Blk at h h'
  rw [h] at h'
  injection h' with h'
  injection h' with _ ht
  exact hne ht
end


section
variable {P : Program} {C : Code} {Q : Exit → Act → World → Prop} {a : Act} {w w' : World} {x : Addr} {v u : Value} {o : Obj}
/-- The world at hand under a name, with what is known of it. -/
theorem wp_forget (F : World → Prop) (hF : F w') (h : ∀ W, F W → C.wp P Q a W) : C.wp P Q a w' := h w' hF

theorem keepA (h : w.cell? x = some v) : (w.alloc o).cell? x = some v := (World.cell?_alloc_some w x o (by rw [h]; rfl)).trans h
theorem keepAD (h : w.cell? x = some v) : (w.alloc o).drew.cell? x = some v := keepA h
theorem keepS {p : Addr} (h : w.cell? x = some v) (hne : p.block ≠ x.block) : (w.setCell p u).cell? x = some v := (World.cell?_setCell_far w p x u hne).trans h
theorem keepSD {p : Addr} (h : w.cell? x = some v) (hne : p.block ≠ x.block) : (w.setCell p u).drew.cell? x = some v := keepS h hne
end
theorem Blk.drew {w : World} {g : Nat} {t : TypeId} {cs : Array Value} (h : Blk w g t cs) : Blk w.drew g t cs := h
theorem Blk.newD (w : World) (t : TypeId) (cs : Array Value) : Blk (w.alloc (.cells cs t)).drew w.heap.size t cs := heap_alloc_new w _

theorem boxed1 (w : World) (c1 : Array Value) (t1 : TypeId) : ∃ (W : World) (g1 : Nat), (w.alloc (.cells c1 t1)) = W ∧ (w.heap.size = g1) ∧ (w.heap.size ≤ g1) ∧ (True) ∧ Ext [] w W ∧ Blk W g1 t1 c1 :=
  ⟨_, w.heap.size, rfl, rfl, by omega, by simp, ((Ext.refl [] w).alloc _), (by simpa using Blk.new w t1 c1 : Blk (w.alloc (.cells c1 t1)) w.heap.size t1 c1)⟩

theorem boxed2 (w : World) (c1 : Array Value) (t1 : TypeId) (c2 : Array Value) (t2 : TypeId) : ∃ (W : World) (g1 g2 : Nat), ((w.alloc (.cells c1 t1)).alloc (.cells c2 t2)) = W ∧ (w.heap.size = g1 ∧ g1 + 1 = g2) ∧ (w.heap.size ≤ g1 ∧ w.heap.size ≤ g2) ∧ (g1 ≠ g2 ∧ g2 ≠ g1) ∧ Ext [] w W ∧ Blk W g1 t1 c1 ∧ Blk W g2 t2 c2 :=
  ⟨_, w.heap.size, w.heap.size + 1, rfl, ⟨rfl, rfl⟩, by omega, by omega, (((Ext.refl [] w).alloc _).alloc _), ((by simpa using Blk.new w t1 c1 : Blk (w.alloc (.cells c1 t1)) w.heap.size t1 c1).alloc _), (by simpa using Blk.new (w.alloc (.cells c1 t1)) t2 c2 : Blk ((w.alloc (.cells c1 t1)).alloc (.cells c2 t2)) (w.heap.size + 1) t2 c2)⟩

theorem boxed3 (w : World) (c1 : Array Value) (t1 : TypeId) (c2 : Array Value) (t2 : TypeId) (c3 : Array Value) (t3 : TypeId) : ∃ (W : World) (g1 g2 g3 : Nat), (((w.alloc (.cells c1 t1)).alloc (.cells c2 t2)).alloc (.cells c3 t3)) = W ∧ (w.heap.size = g1 ∧ g1 + 1 = g2 ∧ g2 + 1 = g3) ∧ (w.heap.size ≤ g1 ∧ w.heap.size ≤ g2 ∧ w.heap.size ≤ g3) ∧ (g1 ≠ g2 ∧ g1 ≠ g3 ∧ g2 ≠ g1 ∧ g2 ≠ g3 ∧ g3 ≠ g1 ∧ g3 ≠ g2) ∧ Ext [] w W ∧ Blk W g1 t1 c1 ∧ Blk W g2 t2 c2 ∧ Blk W g3 t3 c3 :=
  ⟨_, w.heap.size, w.heap.size + 1, w.heap.size + 1 + 1, rfl, ⟨rfl, rfl, rfl⟩, by omega, by omega, ((((Ext.refl [] w).alloc _).alloc _).alloc _), (((by simpa using Blk.new w t1 c1 : Blk (w.alloc (.cells c1 t1)) w.heap.size t1 c1).alloc _).alloc _), ((by simpa using Blk.new (w.alloc (.cells c1 t1)) t2 c2 : Blk ((w.alloc (.cells c1 t1)).alloc (.cells c2 t2)) (w.heap.size + 1) t2 c2).alloc _), (by simpa using Blk.new ((w.alloc (.cells c1 t1)).alloc (.cells c2 t2)) t3 c3 : Blk (((w.alloc (.cells c1 t1)).alloc (.cells c2 t2)).alloc (.cells c3 t3)) (w.heap.size + 1 + 1) t3 c3)⟩

theorem boxed4 (w : World) (c1 : Array Value) (t1 : TypeId) (c2 : Array Value) (t2 : TypeId) (c3 : Array Value) (t3 : TypeId) (c4 : Array Value) (t4 : TypeId) : ∃ (W : World) (g1 g2 g3 g4 : Nat), ((((w.alloc (.cells c1 t1)).alloc (.cells c2 t2)).alloc (.cells c3 t3)).alloc (.cells c4 t4)) = W ∧ (w.heap.size = g1 ∧ g1 + 1 = g2 ∧ g2 + 1 = g3 ∧ g3 + 1 = g4) ∧ (w.heap.size ≤ g1 ∧ w.heap.size ≤ g2 ∧ w.heap.size ≤ g3 ∧ w.heap.size ≤ g4) ∧ (g1 ≠ g2 ∧ g1 ≠ g3 ∧ g1 ≠ g4 ∧ g2 ≠ g1 ∧ g2 ≠ g3 ∧ g2 ≠ g4 ∧ g3 ≠ g1 ∧ g3 ≠ g2 ∧ g3 ≠ g4 ∧ g4 ≠ g1 ∧ g4 ≠ g2 ∧ g4 ≠ g3) ∧ Ext [] w W ∧ Blk W g1 t1 c1 ∧ Blk W g2 t2 c2 ∧ Blk W g3 t3 c3 ∧ Blk W g4 t4 c4 :=
  ⟨_, w.heap.size, w.heap.size + 1, w.heap.size + 1 + 1, w.heap.size + 1 + 1 + 1, rfl, ⟨rfl, rfl, rfl, rfl⟩, by omega, by omega, (((((Ext.refl [] w).alloc _).alloc _).alloc _).alloc _), ((((by simpa using Blk.new w t1 c1 : Blk (w.alloc (.cells c1 t1)) w.heap.size t1 c1).alloc _).alloc _).alloc _), (((by simpa using Blk.new (w.alloc (.cells c1 t1)) t2 c2 : Blk ((w.alloc (.cells c1 t1)).alloc (.cells c2 t2)) (w.heap.size + 1) t2 c2).alloc _).alloc _), ((by simpa using Blk.new ((w.alloc (.cells c1 t1)).alloc (.cells c2 t2)) t3 c3 : Blk (((w.alloc (.cells c1 t1)).alloc (.cells c2 t2)).alloc (.cells c3 t3)) (w.heap.size + 1 + 1) t3 c3).alloc _), (by simpa using Blk.new (((w.alloc (.cells c1 t1)).alloc (.cells c2 t2)).alloc (.cells c3 t3)) t4 c4 : Blk ((((w.alloc (.cells c1 t1)).alloc (.cells c2 t2)).alloc (.cells c3 t3)).alloc (.cells c4 t4)) (w.heap.size + 1 + 1 + 1) t4 c4)⟩

theorem boxed5 (w : World) (c1 : Array Value) (t1 : TypeId) (c2 : Array Value) (t2 : TypeId) (c3 : Array Value) (t3 : TypeId) (c4 : Array Value) (t4 : TypeId) (c5 : Array Value) (t5 : TypeId) : ∃ (W : World) (g1 g2 g3 g4 g5 : Nat), (((((w.alloc (.cells c1 t1)).alloc (.cells c2 t2)).alloc (.cells c3 t3)).alloc (.cells c4 t4)).alloc (.cells c5 t5)) = W ∧ (w.heap.size = g1 ∧ g1 + 1 = g2 ∧ g2 + 1 = g3 ∧ g3 + 1 = g4 ∧ g4 + 1 = g5) ∧ (w.heap.size ≤ g1 ∧ w.heap.size ≤ g2 ∧ w.heap.size ≤ g3 ∧ w.heap.size ≤ g4 ∧ w.heap.size ≤ g5) ∧ (g1 ≠ g2 ∧ g1 ≠ g3 ∧ g1 ≠ g4 ∧ g1 ≠ g5 ∧ g2 ≠ g1 ∧ g2 ≠ g3 ∧ g2 ≠ g4 ∧ g2 ≠ g5 ∧ g3 ≠ g1 ∧ g3 ≠ g2 ∧ g3 ≠ g4 ∧ g3 ≠ g5 ∧ g4 ≠ g1 ∧ g4 ≠ g2 ∧ g4 ≠ g3 ∧ g4 ≠ g5 ∧ g5 ≠ g1 ∧ g5 ≠ g2 ∧ g5 ≠ g3 ∧ g5 ≠ g4) ∧ Ext [] w W ∧ Blk W g1 t1 c1 ∧ Blk W g2 t2 c2 ∧ Blk W g3 t3 c3 ∧ Blk W g4 t4 c4 ∧ Blk W g5 t5 c5 :=
  ⟨_, w.heap.size, w.heap.size + 1, w.heap.size + 1 + 1, w.heap.size + 1 + 1 + 1, w.heap.size + 1 + 1 + 1 + 1, rfl, ⟨rfl, rfl, rfl, rfl, rfl⟩, by omega, by omega, ((((((Ext.refl [] w).alloc _).alloc _).alloc _).alloc _).alloc _), (((((by simpa using Blk.new w t1 c1 : Blk (w.alloc (.cells c1 t1)) w.heap.size t1 c1).alloc _).alloc _).alloc _).alloc _), ((((by simpa using Blk.new (w.alloc (.cells c1 t1)) t2 c2 : Blk ((w.alloc (.cells c1 t1)).alloc (.cells c2 t2)) (w.heap.size + 1) t2 c2).alloc _).alloc _).alloc _), (((by simpa using Blk.new ((w.alloc (.cells c1 t1)).alloc (.cells c2 t2)) t3 c3 : Blk (((w.alloc (.cells c1 t1)).alloc (.cells c2 t2)).alloc (.cells c3 t3)) (w.heap.size + 1 + 1) t3 c3).alloc _).alloc _), ((by simpa using Blk.new (((w.alloc (.cells c1 t1)).alloc (.cells c2 t2)).alloc (.cells c3 t3)) t4 c4 : Blk ((((w.alloc (.cells c1 t1)).alloc (.cells c2 t2)).alloc (.cells c3 t3)).alloc (.cells c4 t4)) (w.heap.size + 1 + 1 + 1) t4 c4).alloc _), (by simpa using Blk.new ((((w.alloc (.cells c1 t1)).alloc (.cells c2 t2)).alloc (.cells c3 t3)).alloc (.cells c4 t4)) t5 c5 : Blk (((((w.alloc (.cells c1 t1)).alloc (.cells c2 t2)).alloc (.cells c3 t3)).alloc (.cells c4 t4)).alloc (.cells c5 t5)) (w.heap.size + 1 + 1 + 1 + 1) t5 c5)⟩

theorem boxed6 (w : World) (c1 : Array Value) (t1 : TypeId) (c2 : Array Value) (t2 : TypeId) (c3 : Array Value) (t3 : TypeId) (c4 : Array Value) (t4 : TypeId) (c5 : Array Value) (t5 : TypeId) (c6 : Array Value) (t6 : TypeId) : ∃ (W : World) (g1 g2 g3 g4 g5 g6 : Nat), ((((((w.alloc (.cells c1 t1)).alloc (.cells c2 t2)).alloc (.cells c3 t3)).alloc (.cells c4 t4)).alloc (.cells c5 t5)).alloc (.cells c6 t6)) = W ∧ (w.heap.size = g1 ∧ g1 + 1 = g2 ∧ g2 + 1 = g3 ∧ g3 + 1 = g4 ∧ g4 + 1 = g5 ∧ g5 + 1 = g6) ∧ (w.heap.size ≤ g1 ∧ w.heap.size ≤ g2 ∧ w.heap.size ≤ g3 ∧ w.heap.size ≤ g4 ∧ w.heap.size ≤ g5 ∧ w.heap.size ≤ g6) ∧ (g1 ≠ g2 ∧ g1 ≠ g3 ∧ g1 ≠ g4 ∧ g1 ≠ g5 ∧ g1 ≠ g6 ∧ g2 ≠ g1 ∧ g2 ≠ g3 ∧ g2 ≠ g4 ∧ g2 ≠ g5 ∧ g2 ≠ g6 ∧ g3 ≠ g1 ∧ g3 ≠ g2 ∧ g3 ≠ g4 ∧ g3 ≠ g5 ∧ g3 ≠ g6 ∧ g4 ≠ g1 ∧ g4 ≠ g2 ∧ g4 ≠ g3 ∧ g4 ≠ g5 ∧ g4 ≠ g6 ∧ g5 ≠ g1 ∧ g5 ≠ g2 ∧ g5 ≠ g3 ∧ g5 ≠ g4 ∧ g5 ≠ g6 ∧ g6 ≠ g1 ∧ g6 ≠ g2 ∧ g6 ≠ g3 ∧ g6 ≠ g4 ∧ g6 ≠ g5) ∧ Ext [] w W ∧ Blk W g1 t1 c1 ∧ Blk W g2 t2 c2 ∧ Blk W g3 t3 c3 ∧ Blk W g4 t4 c4 ∧ Blk W g5 t5 c5 ∧ Blk W g6 t6 c6 :=
  ⟨_, w.heap.size, w.heap.size + 1, w.heap.size + 1 + 1, w.heap.size + 1 + 1 + 1, w.heap.size + 1 + 1 + 1 + 1, w.heap.size + 1 + 1 + 1 + 1 + 1, rfl, ⟨rfl, rfl, rfl, rfl, rfl, rfl⟩, by omega, by omega, (((((((Ext.refl [] w).alloc _).alloc _).alloc _).alloc _).alloc _).alloc _), ((((((by simpa using Blk.new w t1 c1 : Blk (w.alloc (.cells c1 t1)) w.heap.size t1 c1).alloc _).alloc _).alloc _).alloc _).alloc _), (((((by simpa using Blk.new (w.alloc (.cells c1 t1)) t2 c2 : Blk ((w.alloc (.cells c1 t1)).alloc (.cells c2 t2)) (w.heap.size + 1) t2 c2).alloc _).alloc _).alloc _).alloc _), ((((by simpa using Blk.new ((w.alloc (.cells c1 t1)).alloc (.cells c2 t2)) t3 c3 : Blk (((w.alloc (.cells c1 t1)).alloc (.cells c2 t2)).alloc (.cells c3 t3)) (w.heap.size + 1 + 1) t3 c3).alloc _).alloc _).alloc _), (((by simpa using Blk.new (((w.alloc (.cells c1 t1)).alloc (.cells c2 t2)).alloc (.cells c3 t3)) t4 c4 : Blk ((((w.alloc (.cells c1 t1)).alloc (.cells c2 t2)).alloc (.cells c3 t3)).alloc (.cells c4 t4)) (w.heap.size + 1 + 1 + 1) t4 c4).alloc _).alloc _), ((by simpa using Blk.new ((((w.alloc (.cells c1 t1)).alloc (.cells c2 t2)).alloc (.cells c3 t3)).alloc (.cells c4 t4)) t5 c5 : Blk (((((w.alloc (.cells c1 t1)).alloc (.cells c2 t2)).alloc (.cells c3 t3)).alloc (.cells c4 t4)).alloc (.cells c5 t5)) (w.heap.size + 1 + 1 + 1 + 1) t5 c5).alloc _), (by simpa using Blk.new (((((w.alloc (.cells c1 t1)).alloc (.cells c2 t2)).alloc (.cells c3 t3)).alloc (.cells c4 t4)).alloc (.cells c5 t5)) t6 c6 : Blk ((((((w.alloc (.cells c1 t1)).alloc (.cells c2 t2)).alloc (.cells c3 t3)).alloc (.cells c4 t4)).alloc (.cells c5 t5)).alloc (.cells c6 t6)) (w.heap.size + 1 + 1 + 1 + 1 + 1) t6 c6)⟩

theorem boxed7 (w : World) (c1 : Array Value) (t1 : TypeId) (c2 : Array Value) (t2 : TypeId) (c3 : Array Value) (t3 : TypeId) (c4 : Array Value) (t4 : TypeId) (c5 : Array Value) (t5 : TypeId) (c6 : Array Value) (t6 : TypeId) (c7 : Array Value) (t7 : TypeId) : ∃ (W : World) (g1 g2 g3 g4 g5 g6 g7 : Nat), (((((((w.alloc (.cells c1 t1)).alloc (.cells c2 t2)).alloc (.cells c3 t3)).alloc (.cells c4 t4)).alloc (.cells c5 t5)).alloc (.cells c6 t6)).alloc (.cells c7 t7)) = W ∧ (w.heap.size = g1 ∧ g1 + 1 = g2 ∧ g2 + 1 = g3 ∧ g3 + 1 = g4 ∧ g4 + 1 = g5 ∧ g5 + 1 = g6 ∧ g6 + 1 = g7) ∧ (w.heap.size ≤ g1 ∧ w.heap.size ≤ g2 ∧ w.heap.size ≤ g3 ∧ w.heap.size ≤ g4 ∧ w.heap.size ≤ g5 ∧ w.heap.size ≤ g6 ∧ w.heap.size ≤ g7) ∧ (g1 ≠ g2 ∧ g1 ≠ g3 ∧ g1 ≠ g4 ∧ g1 ≠ g5 ∧ g1 ≠ g6 ∧ g1 ≠ g7 ∧ g2 ≠ g1 ∧ g2 ≠ g3 ∧ g2 ≠ g4 ∧ g2 ≠ g5 ∧ g2 ≠ g6 ∧ g2 ≠ g7 ∧ g3 ≠ g1 ∧ g3 ≠ g2 ∧ g3 ≠ g4 ∧ g3 ≠ g5 ∧ g3 ≠ g6 ∧ g3 ≠ g7 ∧ g4 ≠ g1 ∧ g4 ≠ g2 ∧ g4 ≠ g3 ∧ g4 ≠ g5 ∧ g4 ≠ g6 ∧ g4 ≠ g7 ∧ g5 ≠ g1 ∧ g5 ≠ g2 ∧ g5 ≠ g3 ∧ g5 ≠ g4 ∧ g5 ≠ g6 ∧ g5 ≠ g7 ∧ g6 ≠ g1 ∧ g6 ≠ g2 ∧ g6 ≠ g3 ∧ g6 ≠ g4 ∧ g6 ≠ g5 ∧ g6 ≠ g7 ∧ g7 ≠ g1 ∧ g7 ≠ g2 ∧ g7 ≠ g3 ∧ g7 ≠ g4 ∧ g7 ≠ g5 ∧ g7 ≠ g6) ∧ Ext [] w W ∧ Blk W g1 t1 c1 ∧ Blk W g2 t2 c2 ∧ Blk W g3 t3 c3 ∧ Blk W g4 t4 c4 ∧ Blk W g5 t5 c5 ∧ Blk W g6 t6 c6 ∧ Blk W g7 t7 c7 :=
  ⟨_, w.heap.size, w.heap.size + 1, w.heap.size + 1 + 1, w.heap.size + 1 + 1 + 1, w.heap.size + 1 + 1 + 1 + 1, w.heap.size + 1 + 1 + 1 + 1 + 1, w.heap.size + 1 + 1 + 1 + 1 + 1 + 1, rfl, ⟨rfl, rfl, rfl, rfl, rfl, rfl, rfl⟩, by omega, by omega, ((((((((Ext.refl [] w).alloc _).alloc _).alloc _).alloc _).alloc _).alloc _).alloc _), (((((((by simpa using Blk.new w t1 c1 : Blk (w.alloc (.cells c1 t1)) w.heap.size t1 c1).alloc _).alloc _).alloc _).alloc _).alloc _).alloc _), ((((((by simpa using Blk.new (w.alloc (.cells c1 t1)) t2 c2 : Blk ((w.alloc (.cells c1 t1)).alloc (.cells c2 t2)) (w.heap.size + 1) t2 c2).alloc _).alloc _).alloc _).alloc _).alloc _), (((((by simpa using Blk.new ((w.alloc (.cells c1 t1)).alloc (.cells c2 t2)) t3 c3 : Blk (((w.alloc (.cells c1 t1)).alloc (.cells c2 t2)).alloc (.cells c3 t3)) (w.heap.size + 1 + 1) t3 c3).alloc _).alloc _).alloc _).alloc _), ((((by simpa using Blk.new (((w.alloc (.cells c1 t1)).alloc (.cells c2 t2)).alloc (.cells c3 t3)) t4 c4 : Blk ((((w.alloc (.cells c1 t1)).alloc (.cells c2 t2)).alloc (.cells c3 t3)).alloc (.cells c4 t4)) (w.heap.size + 1 + 1 + 1) t4 c4).alloc _).alloc _).alloc _), (((by simpa using Blk.new ((((w.alloc (.cells c1 t1)).alloc (.cells c2 t2)).alloc (.cells c3 t3)).alloc (.cells c4 t4)) t5 c5 : Blk (((((w.alloc (.cells c1 t1)).alloc (.cells c2 t2)).alloc (.cells c3 t3)).alloc (.cells c4 t4)).alloc (.cells c5 t5)) (w.heap.size + 1 + 1 + 1 + 1) t5 c5).alloc _).alloc _), ((by simpa using Blk.new (((((w.alloc (.cells c1 t1)).alloc (.cells c2 t2)).alloc (.cells c3 t3)).alloc (.cells c4 t4)).alloc (.cells c5 t5)) t6 c6 : Blk ((((((w.alloc (.cells c1 t1)).alloc (.cells c2 t2)).alloc (.cells c3 t3)).alloc (.cells c4 t4)).alloc (.cells c5 t5)).alloc (.cells c6 t6)) (w.heap.size + 1 + 1 + 1 + 1 + 1) t6 c6).alloc _), (by simpa using Blk.new ((((((w.alloc (.cells c1 t1)).alloc (.cells c2 t2)).alloc (.cells c3 t3)).alloc (.cells c4 t4)).alloc (.cells c5 t5)).alloc (.cells c6 t6)) t7 c7 : Blk (((((((w.alloc (.cells c1 t1)).alloc (.cells c2 t2)).alloc (.cells c3 t3)).alloc (.cells c4 t4)).alloc (.cells c5 t5)).alloc (.cells c6 t6)).alloc (.cells c7 t7)) (w.heap.size + 1 + 1 + 1 + 1 + 1 + 1) t7 c7)⟩

theorem boxed8 (w : World) (c1 : Array Value) (t1 : TypeId) (c2 : Array Value) (t2 : TypeId) (c3 : Array Value) (t3 : TypeId) (c4 : Array Value) (t4 : TypeId) (c5 : Array Value) (t5 : TypeId) (c6 : Array Value) (t6 : TypeId) (c7 : Array Value) (t7 : TypeId) (c8 : Array Value) (t8 : TypeId) : ∃ (W : World) (g1 g2 g3 g4 g5 g6 g7 g8 : Nat), ((((((((w.alloc (.cells c1 t1)).alloc (.cells c2 t2)).alloc (.cells c3 t3)).alloc (.cells c4 t4)).alloc (.cells c5 t5)).alloc (.cells c6 t6)).alloc (.cells c7 t7)).alloc (.cells c8 t8)) = W ∧ (w.heap.size = g1 ∧ g1 + 1 = g2 ∧ g2 + 1 = g3 ∧ g3 + 1 = g4 ∧ g4 + 1 = g5 ∧ g5 + 1 = g6 ∧ g6 + 1 = g7 ∧ g7 + 1 = g8) ∧ (w.heap.size ≤ g1 ∧ w.heap.size ≤ g2 ∧ w.heap.size ≤ g3 ∧ w.heap.size ≤ g4 ∧ w.heap.size ≤ g5 ∧ w.heap.size ≤ g6 ∧ w.heap.size ≤ g7 ∧ w.heap.size ≤ g8) ∧ (g1 ≠ g2 ∧ g1 ≠ g3 ∧ g1 ≠ g4 ∧ g1 ≠ g5 ∧ g1 ≠ g6 ∧ g1 ≠ g7 ∧ g1 ≠ g8 ∧ g2 ≠ g1 ∧ g2 ≠ g3 ∧ g2 ≠ g4 ∧ g2 ≠ g5 ∧ g2 ≠ g6 ∧ g2 ≠ g7 ∧ g2 ≠ g8 ∧ g3 ≠ g1 ∧ g3 ≠ g2 ∧ g3 ≠ g4 ∧ g3 ≠ g5 ∧ g3 ≠ g6 ∧ g3 ≠ g7 ∧ g3 ≠ g8 ∧ g4 ≠ g1 ∧ g4 ≠ g2 ∧ g4 ≠ g3 ∧ g4 ≠ g5 ∧ g4 ≠ g6 ∧ g4 ≠ g7 ∧ g4 ≠ g8 ∧ g5 ≠ g1 ∧ g5 ≠ g2 ∧ g5 ≠ g3 ∧ g5 ≠ g4 ∧ g5 ≠ g6 ∧ g5 ≠ g7 ∧ g5 ≠ g8 ∧ g6 ≠ g1 ∧ g6 ≠ g2 ∧ g6 ≠ g3 ∧ g6 ≠ g4 ∧ g6 ≠ g5 ∧ g6 ≠ g7 ∧ g6 ≠ g8 ∧ g7 ≠ g1 ∧ g7 ≠ g2 ∧ g7 ≠ g3 ∧ g7 ≠ g4 ∧ g7 ≠ g5 ∧ g7 ≠ g6 ∧ g7 ≠ g8 ∧ g8 ≠ g1 ∧ g8 ≠ g2 ∧ g8 ≠ g3 ∧ g8 ≠ g4 ∧ g8 ≠ g5 ∧ g8 ≠ g6 ∧ g8 ≠ g7) ∧ Ext [] w W ∧ Blk W g1 t1 c1 ∧ Blk W g2 t2 c2 ∧ Blk W g3 t3 c3 ∧ Blk W g4 t4 c4 ∧ Blk W g5 t5 c5 ∧ Blk W g6 t6 c6 ∧ Blk W g7 t7 c7 ∧ Blk W g8 t8 c8 :=
  ⟨_, w.heap.size, w.heap.size + 1, w.heap.size + 1 + 1, w.heap.size + 1 + 1 + 1, w.heap.size + 1 + 1 + 1 + 1, w.heap.size + 1 + 1 + 1 + 1 + 1, w.heap.size + 1 + 1 + 1 + 1 + 1 + 1, w.heap.size + 1 + 1 + 1 + 1 + 1 + 1 + 1, rfl, ⟨rfl, rfl, rfl, rfl, rfl, rfl, rfl, rfl⟩, by omega, by omega, (((((((((Ext.refl [] w).alloc _).alloc _).alloc _).alloc _).alloc _).alloc _).alloc _).alloc _), ((((((((by simpa using Blk.new w t1 c1 : Blk (w.alloc (.cells c1 t1)) w.heap.size t1 c1).alloc _).alloc _).alloc _).alloc _).alloc _).alloc _).alloc _), (((((((by simpa using Blk.new (w.alloc (.cells c1 t1)) t2 c2 : Blk ((w.alloc (.cells c1 t1)).alloc (.cells c2 t2)) (w.heap.size + 1) t2 c2).alloc _).alloc _).alloc _).alloc _).alloc _).alloc _), ((((((by simpa using Blk.new ((w.alloc (.cells c1 t1)).alloc (.cells c2 t2)) t3 c3 : Blk (((w.alloc (.cells c1 t1)).alloc (.cells c2 t2)).alloc (.cells c3 t3)) (w.heap.size + 1 + 1) t3 c3).alloc _).alloc _).alloc _).alloc _).alloc _), (((((by simpa using Blk.new (((w.alloc (.cells c1 t1)).alloc (.cells c2 t2)).alloc (.cells c3 t3)) t4 c4 : Blk ((((w.alloc (.cells c1 t1)).alloc (.cells c2 t2)).alloc (.cells c3 t3)).alloc (.cells c4 t4)) (w.heap.size + 1 + 1 + 1) t4 c4).alloc _).alloc _).alloc _).alloc _), ((((by simpa using Blk.new ((((w.alloc (.cells c1 t1)).alloc (.cells c2 t2)).alloc (.cells c3 t3)).alloc (.cells c4 t4)) t5 c5 : Blk (((((w.alloc (.cells c1 t1)).alloc (.cells c2 t2)).alloc (.cells c3 t3)).alloc (.cells c4 t4)).alloc (.cells c5 t5)) (w.heap.size + 1 + 1 + 1 + 1) t5 c5).alloc _).alloc _).alloc _), (((by simpa using Blk.new (((((w.alloc (.cells c1 t1)).alloc (.cells c2 t2)).alloc (.cells c3 t3)).alloc (.cells c4 t4)).alloc (.cells c5 t5)) t6 c6 : Blk ((((((w.alloc (.cells c1 t1)).alloc (.cells c2 t2)).alloc (.cells c3 t3)).alloc (.cells c4 t4)).alloc (.cells c5 t5)).alloc (.cells c6 t6)) (w.heap.size + 1 + 1 + 1 + 1 + 1) t6 c6).alloc _).alloc _), ((by simpa using Blk.new ((((((w.alloc (.cells c1 t1)).alloc (.cells c2 t2)).alloc (.cells c3 t3)).alloc (.cells c4 t4)).alloc (.cells c5 t5)).alloc (.cells c6 t6)) t7 c7 : Blk (((((((w.alloc (.cells c1 t1)).alloc (.cells c2 t2)).alloc (.cells c3 t3)).alloc (.cells c4 t4)).alloc (.cells c5 t5)).alloc (.cells c6 t6)).alloc (.cells c7 t7)) (w.heap.size + 1 + 1 + 1 + 1 + 1 + 1) t7 c7).alloc _), (by simpa using Blk.new (((((((w.alloc (.cells c1 t1)).alloc (.cells c2 t2)).alloc (.cells c3 t3)).alloc (.cells c4 t4)).alloc (.cells c5 t5)).alloc (.cells c6 t6)).alloc (.cells c7 t7)) t8 c8 : Blk ((((((((w.alloc (.cells c1 t1)).alloc (.cells c2 t2)).alloc (.cells c3 t3)).alloc (.cells c4 t4)).alloc (.cells c5 t5)).alloc (.cells c6 t6)).alloc (.cells c7 t7)).alloc (.cells c8 t8)) (w.heap.size + 1 + 1 + 1 + 1 + 1 + 1 + 1) t8 c8)⟩

theorem Blk.cells1 {w : World} {g : Nat} {t : TypeId} {x0 : Value} (h : Blk w g t #[x0]) : w.cell? ⟨g, 0, none⟩ = some x0 ∧ (∀ i, w.frozen? ⟨g, i, none⟩ = false) ∧ g < w.heap.size :=
  ⟨h.cell 0, h.frozen, h.lt⟩

theorem Blk.cells2 {w : World} {g : Nat} {t : TypeId} {x0 x1 : Value} (h : Blk w g t #[x0, x1]) : w.cell? ⟨g, 0, none⟩ = some x0 ∧ w.cell? ⟨g, 1, none⟩ = some x1 ∧ (∀ i, w.frozen? ⟨g, i, none⟩ = false) ∧ g < w.heap.size :=
  ⟨h.cell 0, h.cell 1, h.frozen, h.lt⟩

theorem Blk.cells3 {w : World} {g : Nat} {t : TypeId} {x0 x1 x2 : Value} (h : Blk w g t #[x0, x1, x2]) : w.cell? ⟨g, 0, none⟩ = some x0 ∧ w.cell? ⟨g, 1, none⟩ = some x1 ∧ w.cell? ⟨g, 2, none⟩ = some x2 ∧ (∀ i, w.frozen? ⟨g, i, none⟩ = false) ∧ g < w.heap.size :=
  ⟨h.cell 0, h.cell 1, h.cell 2, h.frozen, h.lt⟩

theorem Blk.cells4 {w : World} {g : Nat} {t : TypeId} {x0 x1 x2 x3 : Value} (h : Blk w g t #[x0, x1, x2, x3]) : w.cell? ⟨g, 0, none⟩ = some x0 ∧ w.cell? ⟨g, 1, none⟩ = some x1 ∧ w.cell? ⟨g, 2, none⟩ = some x2 ∧ w.cell? ⟨g, 3, none⟩ = some x3 ∧ (∀ i, w.frozen? ⟨g, i, none⟩ = false) ∧ g < w.heap.size :=
  ⟨h.cell 0, h.cell 1, h.cell 2, h.cell 3, h.frozen, h.lt⟩

theorem Blk.cells5 {w : World} {g : Nat} {t : TypeId} {x0 x1 x2 x3 x4 : Value} (h : Blk w g t #[x0, x1, x2, x3, x4]) : w.cell? ⟨g, 0, none⟩ = some x0 ∧ w.cell? ⟨g, 1, none⟩ = some x1 ∧ w.cell? ⟨g, 2, none⟩ = some x2 ∧ w.cell? ⟨g, 3, none⟩ = some x3 ∧ w.cell? ⟨g, 4, none⟩ = some x4 ∧ (∀ i, w.frozen? ⟨g, i, none⟩ = false) ∧ g < w.heap.size :=
  ⟨h.cell 0, h.cell 1, h.cell 2, h.cell 3, h.cell 4, h.frozen, h.lt⟩

theorem Blk.cells6 {w : World} {g : Nat} {t : TypeId} {x0 x1 x2 x3 x4 x5 : Value} (h : Blk w g t #[x0, x1, x2, x3, x4, x5]) : w.cell? ⟨g, 0, none⟩ = some x0 ∧ w.cell? ⟨g, 1, none⟩ = some x1 ∧ w.cell? ⟨g, 2, none⟩ = some x2 ∧ w.cell? ⟨g, 3, none⟩ = some x3 ∧ w.cell? ⟨g, 4, none⟩ = some x4 ∧ w.cell? ⟨g, 5, none⟩ = some x5 ∧ (∀ i, w.frozen? ⟨g, i, none⟩ = false) ∧ g < w.heap.size :=
  ⟨h.cell 0, h.cell 1, h.cell 2, h.cell 3, h.cell 4, h.cell 5, h.frozen, h.lt⟩

theorem Blk.cells7 {w : World} {g : Nat} {t : TypeId} {x0 x1 x2 x3 x4 x5 x6 : Value} (h : Blk w g t #[x0, x1, x2, x3, x4, x5, x6]) : w.cell? ⟨g, 0, none⟩ = some x0 ∧ w.cell? ⟨g, 1, none⟩ = some x1 ∧ w.cell? ⟨g, 2, none⟩ = some x2 ∧ w.cell? ⟨g, 3, none⟩ = some x3 ∧ w.cell? ⟨g, 4, none⟩ = some x4 ∧ w.cell? ⟨g, 5, none⟩ = some x5 ∧ w.cell? ⟨g, 6, none⟩ = some x6 ∧ (∀ i, w.frozen? ⟨g, i, none⟩ = false) ∧ g < w.heap.size :=
  ⟨h.cell 0, h.cell 1, h.cell 2, h.cell 3, h.cell 4, h.cell 5, h.cell 6, h.frozen, h.lt⟩

theorem Blk.cells8 {w : World} {g : Nat} {t : TypeId} {x0 x1 x2 x3 x4 x5 x6 x7 : Value} (h : Blk w g t #[x0, x1, x2, x3, x4, x5, x6, x7]) : w.cell? ⟨g, 0, none⟩ = some x0 ∧ w.cell? ⟨g, 1, none⟩ = some x1 ∧ w.cell? ⟨g, 2, none⟩ = some x2 ∧ w.cell? ⟨g, 3, none⟩ = some x3 ∧ w.cell? ⟨g, 4, none⟩ = some x4 ∧ w.cell? ⟨g, 5, none⟩ = some x5 ∧ w.cell? ⟨g, 6, none⟩ = some x6 ∧ w.cell? ⟨g, 7, none⟩ = some x7 ∧ (∀ i, w.frozen? ⟨g, i, none⟩ = false) ∧ g < w.heap.size :=
  ⟨h.cell 0, h.cell 1, h.cell 2, h.cell 3, h.cell 4, h.cell 5, h.cell 6, h.cell 7, h.frozen, h.lt⟩

theorem Blk.cells9 {w : World} {g : Nat} {t : TypeId} {x0 x1 x2 x3 x4 x5 x6 x7 x8 : Value} (h : Blk w g t #[x0, x1, x2, x3, x4, x5, x6, x7, x8]) : w.cell? ⟨g, 0, none⟩ = some x0 ∧ w.cell? ⟨g, 1, none⟩ = some x1 ∧ w.cell? ⟨g, 2, none⟩ = some x2 ∧ w.cell? ⟨g, 3, none⟩ = some x3 ∧ w.cell? ⟨g, 4, none⟩ = some x4 ∧ w.cell? ⟨g, 5, none⟩ = some x5 ∧ w.cell? ⟨g, 6, none⟩ = some x6 ∧ w.cell? ⟨g, 7, none⟩ = some x7 ∧ w.cell? ⟨g, 8, none⟩ = some x8 ∧ (∀ i, w.frozen? ⟨g, i, none⟩ = false) ∧ g < w.heap.size :=
  ⟨h.cell 0, h.cell 1, h.cell 2, h.cell 3, h.cell 4, h.cell 5, h.cell 6, h.cell 7, h.cell 8, h.frozen, h.lt⟩

theorem Blk.cells10 {w : World} {g : Nat} {t : TypeId} {x0 x1 x2 x3 x4 x5 x6 x7 x8 x9 : Value} (h : Blk w g t #[x0, x1, x2, x3, x4, x5, x6, x7, x8, x9]) : w.cell? ⟨g, 0, none⟩ = some x0 ∧ w.cell? ⟨g, 1, none⟩ = some x1 ∧ w.cell? ⟨g, 2, none⟩ = some x2 ∧ w.cell? ⟨g, 3, none⟩ = some x3 ∧ w.cell? ⟨g, 4, none⟩ = some x4 ∧ w.cell? ⟨g, 5, none⟩ = some x5 ∧ w.cell? ⟨g, 6, none⟩ = some x6 ∧ w.cell? ⟨g, 7, none⟩ = some x7 ∧ w.cell? ⟨g, 8, none⟩ = some x8 ∧ w.cell? ⟨g, 9, none⟩ = some x9 ∧ (∀ i, w.frozen? ⟨g, i, none⟩ = false) ∧ g < w.heap.size :=
  ⟨h.cell 0, h.cell 1, h.cell 2, h.cell 3, h.cell 4, h.cell 5, h.cell 6, h.cell 7, h.cell 8, h.cell 9, h.frozen, h.lt⟩

theorem Blk.cells11 {w : World} {g : Nat} {t : TypeId} {x0 x1 x2 x3 x4 x5 x6 x7 x8 x9 x10 : Value} (h : Blk w g t #[x0, x1, x2, x3, x4, x5, x6, x7, x8, x9, x10]) : w.cell? ⟨g, 0, none⟩ = some x0 ∧ w.cell? ⟨g, 1, none⟩ = some x1 ∧ w.cell? ⟨g, 2, none⟩ = some x2 ∧ w.cell? ⟨g, 3, none⟩ = some x3 ∧ w.cell? ⟨g, 4, none⟩ = some x4 ∧ w.cell? ⟨g, 5, none⟩ = some x5 ∧ w.cell? ⟨g, 6, none⟩ = some x6 ∧ w.cell? ⟨g, 7, none⟩ = some x7 ∧ w.cell? ⟨g, 8, none⟩ = some x8 ∧ w.cell? ⟨g, 9, none⟩ = some x9 ∧ w.cell? ⟨g, 10, none⟩ = some x10 ∧ (∀ i, w.frozen? ⟨g, i, none⟩ = false) ∧ g < w.heap.size :=
  ⟨h.cell 0, h.cell 1, h.cell 2, h.cell 3, h.cell 4, h.cell 5, h.cell 6, h.cell 7, h.cell 8, h.cell 9, h.cell 10, h.frozen, h.lt⟩

theorem Blk.cells12 {w : World} {g : Nat} {t : TypeId} {x0 x1 x2 x3 x4 x5 x6 x7 x8 x9 x10 x11 : Value} (h : Blk w g t #[x0, x1, x2, x3, x4, x5, x6, x7, x8, x9, x10, x11]) : w.cell? ⟨g, 0, none⟩ = some x0 ∧ w.cell? ⟨g, 1, none⟩ = some x1 ∧ w.cell? ⟨g, 2, none⟩ = some x2 ∧ w.cell? ⟨g, 3, none⟩ = some x3 ∧ w.cell? ⟨g, 4, none⟩ = some x4 ∧ w.cell? ⟨g, 5, none⟩ = some x5 ∧ w.cell? ⟨g, 6, none⟩ = some x6 ∧ w.cell? ⟨g, 7, none⟩ = some x7 ∧ w.cell? ⟨g, 8, none⟩ = some x8 ∧ w.cell? ⟨g, 9, none⟩ = some x9 ∧ w.cell? ⟨g, 10, none⟩ = some x10 ∧ w.cell? ⟨g, 11, none⟩ = some x11 ∧ (∀ i, w.frozen? ⟨g, i, none⟩ = false) ∧ g < w.heap.size :=
  ⟨h.cell 0, h.cell 1, h.cell 2, h.cell 3, h.cell 4, h.cell 5, h.cell 6, h.cell 7, h.cell 8, h.cell 9, h.cell 10, h.cell 11, h.frozen, h.lt⟩

theorem Blk.cells13 {w : World} {g : Nat} {t : TypeId} {x0 x1 x2 x3 x4 x5 x6 x7 x8 x9 x10 x11 x12 : Value} (h : Blk w g t #[x0, x1, x2, x3, x4, x5, x6, x7, x8, x9, x10, x11, x12]) : w.cell? ⟨g, 0, none⟩ = some x0 ∧ w.cell? ⟨g, 1, none⟩ = some x1 ∧ w.cell? ⟨g, 2, none⟩ = some x2 ∧ w.cell? ⟨g, 3, none⟩ = some x3 ∧ w.cell? ⟨g, 4, none⟩ = some x4 ∧ w.cell? ⟨g, 5, none⟩ = some x5 ∧ w.cell? ⟨g, 6, none⟩ = some x6 ∧ w.cell? ⟨g, 7, none⟩ = some x7 ∧ w.cell? ⟨g, 8, none⟩ = some x8 ∧ w.cell? ⟨g, 9, none⟩ = some x9 ∧ w.cell? ⟨g, 10, none⟩ = some x10 ∧ w.cell? ⟨g, 11, none⟩ = some x11 ∧ w.cell? ⟨g, 12, none⟩ = some x12 ∧ (∀ i, w.frozen? ⟨g, i, none⟩ = false) ∧ g < w.heap.size :=
  ⟨h.cell 0, h.cell 1, h.cell 2, h.cell 3, h.cell 4, h.cell 5, h.cell 6, h.cell 7, h.cell 8, h.cell 9, h.cell 10, h.cell 11, h.cell 12, h.frozen, h.lt⟩

theorem Blk.cells14 {w : World} {g : Nat} {t : TypeId} {x0 x1 x2 x3 x4 x5 x6 x7 x8 x9 x10 x11 x12 x13 : Value} (h : Blk w g t #[x0, x1, x2, x3, x4, x5, x6, x7, x8, x9, x10, x11, x12, x13]) : w.cell? ⟨g, 0, none⟩ = some x0 ∧ w.cell? ⟨g, 1, none⟩ = some x1 ∧ w.cell? ⟨g, 2, none⟩ = some x2 ∧ w.cell? ⟨g, 3, none⟩ = some x3 ∧ w.cell? ⟨g, 4, none⟩ = some x4 ∧ w.cell? ⟨g, 5, none⟩ = some x5 ∧ w.cell? ⟨g, 6, none⟩ = some x6 ∧ w.cell? ⟨g, 7, none⟩ = some x7 ∧ w.cell? ⟨g, 8, none⟩ = some x8 ∧ w.cell? ⟨g, 9, none⟩ = some x9 ∧ w.cell? ⟨g, 10, none⟩ = some x10 ∧ w.cell? ⟨g, 11, none⟩ = some x11 ∧ w.cell? ⟨g, 12, none⟩ = some x12 ∧ w.cell? ⟨g, 13, none⟩ = some x13 ∧ (∀ i, w.frozen? ⟨g, i, none⟩ = false) ∧ g < w.heap.size :=
  ⟨h.cell 0, h.cell 1, h.cell 2, h.cell 3, h.cell 4, h.cell 5, h.cell 6, h.cell 7, h.cell 8, h.cell 9, h.cell 10, h.cell 11, h.cell 12, h.cell 13, h.frozen, h.lt⟩

theorem Blk.cells15 {w : World} {g : Nat} {t : TypeId} {x0 x1 x2 x3 x4 x5 x6 x7 x8 x9 x10 x11 x12 x13 x14 : Value} (h : Blk w g t #[x0, x1, x2, x3, x4, x5, x6, x7, x8, x9, x10, x11, x12, x13, x14]) : w.cell? ⟨g, 0, none⟩ = some x0 ∧ w.cell? ⟨g, 1, none⟩ = some x1 ∧ w.cell? ⟨g, 2, none⟩ = some x2 ∧ w.cell? ⟨g, 3, none⟩ = some x3 ∧ w.cell? ⟨g, 4, none⟩ = some x4 ∧ w.cell? ⟨g, 5, none⟩ = some x5 ∧ w.cell? ⟨g, 6, none⟩ = some x6 ∧ w.cell? ⟨g, 7, none⟩ = some x7 ∧ w.cell? ⟨g, 8, none⟩ = some x8 ∧ w.cell? ⟨g, 9, none⟩ = some x9 ∧ w.cell? ⟨g, 10, none⟩ = some x10 ∧ w.cell? ⟨g, 11, none⟩ = some x11 ∧ w.cell? ⟨g, 12, none⟩ = some x12 ∧ w.cell? ⟨g, 13, none⟩ = some x13 ∧ w.cell? ⟨g, 14, none⟩ = some x14 ∧ (∀ i, w.frozen? ⟨g, i, none⟩ = false) ∧ g < w.heap.size :=
  ⟨h.cell 0, h.cell 1, h.cell 2, h.cell 3, h.cell 4, h.cell 5, h.cell 6, h.cell 7, h.cell 8, h.cell 9, h.cell 10, h.cell 11, h.cell 12, h.cell 13, h.cell 14, h.frozen, h.lt⟩

theorem Blk.cells16 {w : World} {g : Nat} {t : TypeId} {x0 x1 x2 x3 x4 x5 x6 x7 x8 x9 x10 x11 x12 x13 x14 x15 : Value} (h : Blk w g t #[x0, x1, x2, x3, x4, x5, x6, x7, x8, x9, x10, x11, x12, x13, x14, x15]) : w.cell? ⟨g, 0, none⟩ = some x0 ∧ w.cell? ⟨g, 1, none⟩ = some x1 ∧ w.cell? ⟨g, 2, none⟩ = some x2 ∧ w.cell? ⟨g, 3, none⟩ = some x3 ∧ w.cell? ⟨g, 4, none⟩ = some x4 ∧ w.cell? ⟨g, 5, none⟩ = some x5 ∧ w.cell? ⟨g, 6, none⟩ = some x6 ∧ w.cell? ⟨g, 7, none⟩ = some x7 ∧ w.cell? ⟨g, 8, none⟩ = some x8 ∧ w.cell? ⟨g, 9, none⟩ = some x9 ∧ w.cell? ⟨g, 10, none⟩ = some x10 ∧ w.cell? ⟨g, 11, none⟩ = some x11 ∧ w.cell? ⟨g, 12, none⟩ = some x12 ∧ w.cell? ⟨g, 13, none⟩ = some x13 ∧ w.cell? ⟨g, 14, none⟩ = some x14 ∧ w.cell? ⟨g, 15, none⟩ = some x15 ∧ (∀ i, w.frozen? ⟨g, i, none⟩ = false) ∧ g < w.heap.size :=
  ⟨h.cell 0, h.cell 1, h.cell 2, h.cell 3, h.cell 4, h.cell 5, h.cell 6, h.cell 7, h.cell 8, h.cell 9, h.cell 10, h.cell 11, h.cell 12, h.cell 13, h.cell 14, h.cell 15, h.frozen, h.lt⟩

theorem Blk.cells17 {w : World} {g : Nat} {t : TypeId} {x0 x1 x2 x3 x4 x5 x6 x7 x8 x9 x10 x11 x12 x13 x14 x15 x16 : Value} (h : Blk w g t #[x0, x1, x2, x3, x4, x5, x6, x7, x8, x9, x10, x11, x12, x13, x14, x15, x16]) : w.cell? ⟨g, 0, none⟩ = some x0 ∧ w.cell? ⟨g, 1, none⟩ = some x1 ∧ w.cell? ⟨g, 2, none⟩ = some x2 ∧ w.cell? ⟨g, 3, none⟩ = some x3 ∧ w.cell? ⟨g, 4, none⟩ = some x4 ∧ w.cell? ⟨g, 5, none⟩ = some x5 ∧ w.cell? ⟨g, 6, none⟩ = some x6 ∧ w.cell? ⟨g, 7, none⟩ = some x7 ∧ w.cell? ⟨g, 8, none⟩ = some x8 ∧ w.cell? ⟨g, 9, none⟩ = some x9 ∧ w.cell? ⟨g, 10, none⟩ = some x10 ∧ w.cell? ⟨g, 11, none⟩ = some x11 ∧ w.cell? ⟨g, 12, none⟩ = some x12 ∧ w.cell? ⟨g, 13, none⟩ = some x13 ∧ w.cell? ⟨g, 14, none⟩ = some x14 ∧ w.cell? ⟨g, 15, none⟩ = some x15 ∧ w.cell? ⟨g, 16, none⟩ = some x16 ∧ (∀ i, w.frozen? ⟨g, i, none⟩ = false) ∧ g < w.heap.size :=
  ⟨h.cell 0, h.cell 1, h.cell 2, h.cell 3, h.cell 4, h.cell 5, h.cell 6, h.cell 7, h.cell 8, h.cell 9, h.cell 10, h.cell 11, h.cell 12, h.cell 13, h.cell 14, h.cell 15, h.cell 16, h.frozen, h.lt⟩

theorem Blk.cells18 {w : World} {g : Nat} {t : TypeId} {x0 x1 x2 x3 x4 x5 x6 x7 x8 x9 x10 x11 x12 x13 x14 x15 x16 x17 : Value} (h : Blk w g t #[x0, x1, x2, x3, x4, x5, x6, x7, x8, x9, x10, x11, x12, x13, x14, x15, x16, x17]) : w.cell? ⟨g, 0, none⟩ = some x0 ∧ w.cell? ⟨g, 1, none⟩ = some x1 ∧ w.cell? ⟨g, 2, none⟩ = some x2 ∧ w.cell? ⟨g, 3, none⟩ = some x3 ∧ w.cell? ⟨g, 4, none⟩ = some x4 ∧ w.cell? ⟨g, 5, none⟩ = some x5 ∧ w.cell? ⟨g, 6, none⟩ = some x6 ∧ w.cell? ⟨g, 7, none⟩ = some x7 ∧ w.cell? ⟨g, 8, none⟩ = some x8 ∧ w.cell? ⟨g, 9, none⟩ = some x9 ∧ w.cell? ⟨g, 10, none⟩ = some x10 ∧ w.cell? ⟨g, 11, none⟩ = some x11 ∧ w.cell? ⟨g, 12, none⟩ = some x12 ∧ w.cell? ⟨g, 13, none⟩ = some x13 ∧ w.cell? ⟨g, 14, none⟩ = some x14 ∧ w.cell? ⟨g, 15, none⟩ = some x15 ∧ w.cell? ⟨g, 16, none⟩ = some x16 ∧ w.cell? ⟨g, 17, none⟩ = some x17 ∧ (∀ i, w.frozen? ⟨g, i, none⟩ = false) ∧ g < w.heap.size :=
  ⟨h.cell 0, h.cell 1, h.cell 2, h.cell 3, h.cell 4, h.cell 5, h.cell 6, h.cell 7, h.cell 8, h.cell 9, h.cell 10, h.cell 11, h.cell 12, h.cell 13, h.cell 14, h.cell 15, h.cell 16, h.cell 17, h.frozen, h.lt⟩

theorem Blk.cells19 {w : World} {g : Nat} {t : TypeId} {x0 x1 x2 x3 x4 x5 x6 x7 x8 x9 x10 x11 x12 x13 x14 x15 x16 x17 x18 : Value} (h : Blk w g t #[x0, x1, x2, x3, x4, x5, x6, x7, x8, x9, x10, x11, x12, x13, x14, x15, x16, x17, x18]) : w.cell? ⟨g, 0, none⟩ = some x0 ∧ w.cell? ⟨g, 1, none⟩ = some x1 ∧ w.cell? ⟨g, 2, none⟩ = some x2 ∧ w.cell? ⟨g, 3, none⟩ = some x3 ∧ w.cell? ⟨g, 4, none⟩ = some x4 ∧ w.cell? ⟨g, 5, none⟩ = some x5 ∧ w.cell? ⟨g, 6, none⟩ = some x6 ∧ w.cell? ⟨g, 7, none⟩ = some x7 ∧ w.cell? ⟨g, 8, none⟩ = some x8 ∧ w.cell? ⟨g, 9, none⟩ = some x9 ∧ w.cell? ⟨g, 10, none⟩ = some x10 ∧ w.cell? ⟨g, 11, none⟩ = some x11 ∧ w.cell? ⟨g, 12, none⟩ = some x12 ∧ w.cell? ⟨g, 13, none⟩ = some x13 ∧ w.cell? ⟨g, 14, none⟩ = some x14 ∧ w.cell? ⟨g, 15, none⟩ = some x15 ∧ w.cell? ⟨g, 16, none⟩ = some x16 ∧ w.cell? ⟨g, 17, none⟩ = some x17 ∧ w.cell? ⟨g, 18, none⟩ = some x18 ∧ (∀ i, w.frozen? ⟨g, i, none⟩ = false) ∧ g < w.heap.size :=
  ⟨h.cell 0, h.cell 1, h.cell 2, h.cell 3, h.cell 4, h.cell 5, h.cell 6, h.cell 7, h.cell 8, h.cell 9, h.cell 10, h.cell 11, h.cell 12, h.cell 13, h.cell 14, h.cell 15, h.cell 16, h.cell 17, h.cell 18, h.frozen, h.lt⟩

end Go.Proofs.YtcopemgkjbaaeaaDoor
