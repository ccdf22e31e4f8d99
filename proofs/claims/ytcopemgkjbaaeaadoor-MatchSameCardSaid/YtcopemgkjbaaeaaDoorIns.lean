/-
  Slices that came in: rows of cells somewhere in a block.
-/
import Derived.Test.YtcopemgkjbaaeaaDoorIt
namespace Go.Proofs.YtcopemgkjbaaeaaDoor
set_option linter.all false
open Go.RowKit

def so : Option Addr → Nat
  | some a => a.off
  | none => 0
/-- The cells cs lie in a row at b. -/
def InS (w : World) (b : Option Addr) (cs : List Value) : Prop :=
  cs = [] ∨ (b = some ⟨sp b, so b, none⟩ ∧ sp b < w.heap.size ∧ ∀ (j : Nat) (u : Value), cs[j]? = some u → w.cell? ⟨sp b, so b + j, none⟩ = some u)
theorem cell_block {w w' : World} {g o : Nat} (h : w'.heap[g]? = w.heap[g]?) : w'.cell? ⟨g, o, none⟩ = w.cell? ⟨g, o, none⟩ := by
  simp only [World.cell?, h]
section
variable {P : Program} {m : SM} {w w' w0 : World} {X : List Nat} {dst : Option Nat} {ty : TypeId} {pos : String} {af : Array Edge} {gd : Option (Nat × Bool)} {b : Option Addr} {cs : List Value}
theorem InS.ext (h : InS w b cs) (hx : Ext X w w') (hX : sp b ∉ X) : InS w' b cs := by
  rcases h with h | ⟨h1, h2, h3⟩
  · exact .inl h
  · refine .inr ⟨h1, Nat.lt_of_lt_of_le h2 hx.size, fun j u hu => ?_⟩
    rw [cell_block (hx.block _ h2 hX)]
    exact h3 j u hu
theorem InS.ext0 (h : InS w b cs) (hx : Ext [] w w') : InS w' b cs := h.ext hx (by simp)
theorem InS.some_ (h : InS w b cs) (hc : 0 < cs.length) : b = some ⟨sp b, so b, none⟩ := by
  rcases h with rfl | h
  · simp at hc
  · exact h.1
theorem InS.of_own {base : Nat} {e : TypeId} {size k c : Nat} (h : w.ownsRow base e size (.slice b k c) k cs) : InS w b cs := by
  rcases Nat.eq_zero_or_pos k with rfl | hk
  · exact .inl (List.eq_nil_of_length_eq_zero (by have := h.1; rw [Nat.zero_mul] at this; exact this))
  · obtain ⟨h1, cur, h2, h3⟩ := ownsRow.some_ h hk
    have hs : so b = 0 := by rw [h1]; rfl
    refine .inr ⟨by rw [hs]; exact h1, (Array.getElem?_eq_some_iff.1 h2).1, fun j u hu => ?_⟩
    have hB : Blk w (sp b) e cur := h2
    rw [hs, Nat.zero_add, hB.cell j, ← hu, ← h3, List.getElem?_take]
    have h4 : j < k * size := by
      have := (List.getElem?_eq_some_iff.1 hu).1
      have := h.1
      omega
    rw [if_pos h4]; simp
theorem ev_indexI {t e : TypeId} {size k c : Nat} {x ix : Operand} {i : Nat} (hT : IdxT P t e size) (hx : opv m x = some (.slice b k c)) (hi : opv m ix = some (.int .i64 (i : Nat)))
    (hb : b = some ⟨sp b, so b, none⟩) (hk : i < k) : Ev P m ⟨dst, .indexAddr t x ix, ty, pos, af, gd⟩ w (.pointer (some ⟨sp b, so b + i * size, none⟩)) := fun ρ hρ => by
  simp only [execOp, hρ.get hx, hρ.get hi]
  rw [hb]
  have hs := hT.s w
  simp [Instr.indexAt, asIntOf, run_underlying hT.u, hk, hs, Addr.add, sp, so]
theorem run_loadIn {g o : Nat} : ∀ (vs : List Value) (j : Nat) (acc : Array Value), (∀ (q : Nat) (u : Value), vs[q]? = some u → w.cell? ⟨g, o + (j + q), none⟩ = some u) → (loadCellsFrom ⟨g, o, none⟩ j vs.length acc).run P w = .ok (acc ++ vs.toArray) w
  | [], j, acc, _ => by simp [loadCellsFrom]
  | v :: vs, j, acc, h => by
    have e : ((⟨g, o, none⟩ : Addr).add j) = ⟨g, o + j, none⟩ := by unfold Addr.add; split <;> simp_all
    have hc : w.cell? ((⟨g, o, none⟩ : Addr).add j) = some v := by rw [e]; simpa using h 0 v rfl
    simp only [List.length_cons, loadCellsFrom, load]
    simp only [Sem.run_bind, Sem.run, hc, Result.andThen_ok]
    rw [run_loadIn vs (j + 1) _ (fun q u hu => by rw [show j + 1 + q = j + (q + 1) from by omega]; exact h (q + 1) u (by simpa using hu))]
    simp
theorem InS.loadN {vs : List Value} {o q : Nat} {t : TypeId} (hA : Agg P t q) (hin : InS w b cs) (hv : (cs.drop o).take q = vs) (hl : vs.length = q) (hq : 0 < q) :
    (Instr.loadAt t (.pointer (some ⟨sp b, so b + o, none⟩))).run P w = .ok (.agg vs.toArray) w := by
  have hlen : o + q ≤ cs.length := by
    have := congrArg List.length hv
    simp only [List.length_take, List.length_drop] at this
    omega
  rcases hin with rfl | ⟨_, _, h⟩
  · simp at hlen; omega
  · have hr := run_loadIn (P := P) (w := w) (g := sp b) (o := so b + o) vs 0 #[] (fun k u hu => by
      rw [Nat.zero_add, Nat.add_assoc]
      refine h (o + k) u ?_
      rw [← hv, List.getElem?_take] at hu
      split at hu
      · rw [List.getElem?_drop] at hu; exact hu
      · cases hu)
    rw [hl] at hr
    simp only [Instr.loadAt, Instr.sureAddr, loadVar, loadCells]
    simp [hA.1 w, hA.2 w, hr]
theorem InS.load1 {o : Nat} {t : TypeId} {v : Value} (hA : NAgg P t) (hin : InS w b cs) (hv : cs[o]? = some v) :
    (Instr.loadAt t (.pointer (some ⟨sp b, so b + o, none⟩))).run P w = .ok v w := by
  rcases hin with rfl | ⟨_, _, h⟩
  · simp at hv
  · have hc := h o v hv
    simp [Instr.loadAt, Instr.sureAddr, loadVar, hA w, load, Sem.run, hc]
theorem InS.load1f {o k : Nat} {t : TypeId} {v : Value} (hA : NAgg P t) (hin : InS w b cs) (hv : cs[o + k]? = some v) :
    (Instr.loadAt t (.pointer (some ⟨sp b, so b + o + k, none⟩))).run P w = .ok v w := by
  rw [Nat.add_assoc]; exact InS.load1 hA hin hv
end
def Ent.cells (e : Ent) : List Value := [.string e.key, .int .i64 e.c, .int .i64 e.n, .string e.val, .bool e.dead]
def entCells (l : List Ent) : List Value := l.flatMap Ent.cells
theorem entCells_len : ∀ l : List Ent, (entCells l).length = l.length * 5
  | [] => rfl
  | e :: l => by have := entCells_len l; simp only [entCells, List.flatMap_cons, List.length_append, List.length_cons, Ent.cells, List.length_nil] at *; omega
theorem entCells_at : ∀ {l : List Ent} {e : Ent} {n : Nat}, l[n]? = some e → ((entCells l).drop (n * 5)).take 5 = e.cells
  | [], _, _, h => by simp at h
  | a :: l, e, 0, h => by simp at h; subst h; simp [entCells, Ent.cells]
  | a :: l, e, n + 1, h => by
    have ih := entCells_at (l := l) (e := e) (n := n) (by simpa using h)
    rw [← ih]
    simp only [entCells, List.flatMap_cons, Ent.cells]
    rw [show (n + 1) * 5 = 5 + n * 5 from by omega, ← List.drop_drop]
    rfl
theorem entCells_f {l : List Ent} {e : Ent} {n k : Nat} {v : Value} (h : l[n]? = some e) (hk : k < 5) (hv : e.cells[k]? = some v) : (entCells l)[n * 5 + k]? = some v := by
  have := entCells_at h
  rw [← this, List.getElem?_take, if_pos hk, List.getElem?_drop] at hv
  exact hv
theorem entCells_0 {l : List Ent} {e : Ent} {n : Nat} {v : Value} (h : l[n]? = some e) (hv : e.cells[0]? = some v) : (entCells l)[n * 5]? = some v := entCells_f (k := 0) h (by decide) hv
theorem InS.loadV {P : Program} {w : World} {b : Option Addr} {t : TypeId} {l : List Ent} {e : Ent} {n : Nat} (hA : Agg P t 2) (hin : InS w b (entCells l)) (he : l[n]? = some e) :
    (Instr.loadAt t (.pointer (some ⟨sp b, so b + n * 5 + 1, none⟩))).run P w = .ok (.agg #[.int .i64 e.c, .int .i64 e.n]) w := by
  rw [Nat.add_assoc]
  refine InS.loadN (vs := [.int .i64 e.c, .int .i64 e.n]) hA hin ?_ rfl (by decide)
  have h := entCells_at he
  rw [← List.drop_drop]
  have h2 : ((((entCells l).drop (n * 5)).take 5).drop 1).take 2 = [.int .i64 e.c, .int .i64 e.n] := by rw [h]; rfl
  rw [List.drop_take, List.take_take] at h2
  exact h2

theorem IsT.drew {w : World} {p : Option Addr} {t : T} (h : IsT w p t) : IsT w.drew p t := IsT.heap (w := w) (w' := w.drew) rfl h
theorem check_key {e : Ent} (h : e.check = 0) : e.key.size ≤ 16 := by
  unfold Ent.check at h
  rcases Bool.eq_false_or_eq_true (decide (((e.key.size : Nat) : Int) > 16)) with hc | hc
  · rw [hc] at h; cases h
  · have := of_decide_eq_false hc; omega
/-- A store in memory: its node, clock and rows, and the joins that its Meter counted. -/
structure Sto (w : World) (gs bm bt : Nat) (p : Option Addr) (node clock j : Int) (tt : T) : Prop where
  blk : Blk w gs 129 #[.int .i64 node, .int .i64 clock, .pointer (some ⟨bm, 0, none⟩), .pointer (some ⟨bt, 0, none⟩)]
  tr : Tr w bt bm j p
  ist : IsT w p tt
theorem Tr.ext {w w' : World} {bt bm : Nat} {j : Int} {p : Option Addr} {X : List Nat} (h : Tr w bt bm j p) (hx : Ext X w w') (hd : bt ∉ X ∧ bm ∉ X) : Tr w' bt bm j p := ⟨h.t.ext hx hd.1, h.m.ext hx hd.2⟩
theorem Tr.ext1 {w w' : World} {bt bm : Nat} {j : Int} {p : Option Addr} {g : Nat} {t : TypeId} {cs : Array Value} (h : Tr w bt bm j p) (hx : Ext [g] w w') (hb : Blk w g t cs) (h1 : t ≠ 179) (h2 : t ≠ 205) : Tr w' bt bm j p :=
  h.ext hx ⟨by simpa using (hb.ne_ h.t h1).symm, by simpa using (hb.ne_ h.m h2).symm⟩
theorem Tr.drew {w : World} {bt bm : Nat} {j : Int} {p : Option Addr} (h : Tr w bt bm j p) : Tr w.drew bt bm j p := ⟨h.t, h.m⟩
theorem St.apart {X : List Nat} {w0 w : World} {M : List (Nat × TypeId × List Value)} (st : St X w0 w M) {bt bm : Nat} {j : Int} {p : Option Addr} (h : Tr w bt bm j p) (ht : M.all (fun x => x.2.1 != 179 && x.2.1 != 205) = true) : ∀ g ∈ M.map (·.1), g ∉ [bt, bm] := by
  intro g hg hm
  obtain ⟨x, hx, rfl⟩ := List.mem_map.1 hg
  have h1 := List.all_eq_true.1 ht x hx
  simp only [Bool.and_eq_true, bne_iff_ne, ne_eq] at h1
  have hb := st.blk x hx
  simp only [List.mem_cons, List.not_mem_nil, or_false] at hm
  rcases hm with hm | hm
  · exact hb.ne_ h.t h1.1 hm
  · exact hb.ne_ h.m h1.2 hm
end Go.Proofs.YtcopemgkjbaaeaaDoor
