/-
  append, slices of the call's own, what makes a block.
-/
import Derived.Test.YtcopemgkjbaaeaaDoorTr5
namespace Go.Proofs.YtcopemgkjbaaeaaDoor
set_option linter.all false
open Go.RowKit

def ownB (v : Value) : List Nat := v.ownBlock.toList
structure AppT (P : Program) (t e : TypeId) (size bytes : Nat) : Prop where
  ht : P.underlying t = some (.slice e)
  ex : ∃ i z, P.info? e = some i ∧ i.zero = some z ∧ i.size = size ∧ i.bytes = bytes ∧ z.cells.size = size ∧ 0 < size

section
variable {P : Program} {n : Nat} {m : SM} {w w0 w' : World} {X : List Nat} {M : List (Nat × TypeId × List Value)}
variable {dst : Option Nat} {ty : TypeId} {pos : String} {af : Array Edge} {gd : Option (Nat × Bool)}

theorem Ext.of_grown {v : Value} (h : w.grownBy w' v.ownBlock) : Ext (ownB v) w w' :=
  ⟨h.os, h.tape, h.output, h.size, fun k hk hx => h.block k hk fun e => hx (by simp [ownB, ← e])⟩
theorem ownsRow.lt {base : Nat} {e : TypeId} {size : Nat} {v : Value} {k : Nat} {xs : List Value} (h : w.ownsRow base e size v k xs) : ∀ g ∈ ownB v, g < w.heap.size ∧ base ≤ g := by
  intro g hg
  rcases h.2 with ⟨rfl, _⟩ | ⟨g', cap, cur, rfl, hb, hh, _⟩
  · simp [ownB, Value.ownBlock] at hg
  · simp [ownB, Value.ownBlock] at hg
    subst hg
    exact ⟨(Array.getElem?_eq_some_iff.1 hh).1, hb⟩
theorem ownsRow.ext {base : Nat} {e : TypeId} {size : Nat} {v : Value} {k : Nat} {xs : List Value} (h : w.ownsRow base e size v k xs) (hx : Ext X w w') (hX : ∀ g ∈ ownB v, g ∉ X) : w'.ownsRow base e size v k xs := by
  refine ⟨h.1, ?_⟩
  rcases h.2 with hn | ⟨g, cap, cur, rfl, hb, hh, rest⟩
  · exact .inl hn
  · refine .inr ⟨g, cap, cur, rfl, hb, ?_, rest⟩
    rw [hx.block g (Array.getElem?_eq_some_iff.1 hh).1 (hX g (by simp [ownB, Value.ownBlock]))]
    exact hh
theorem ownsRow.not_blk {base : Nat} {e : TypeId} {size : Nat} {v : Value} {k : Nat} {xs : List Value} (h : w.ownsRow base e size v k xs) {g : Nat} {t : TypeId} {cs : Array Value} (hb : Blk w g t cs) (ht : e ≠ t) : g ∉ ownB v := by
  intro hg
  rcases h.2 with ⟨rfl, _⟩ | ⟨g', cap, cur, rfl, _, hh, _⟩
  · simp [ownB, Value.ownBlock] at hg
  · simp [ownB, Value.ownBlock] at hg
    subst hg
    unfold Blk at hb
    rw [hh] at hb
    injection hb with hb
    injection hb with _ h2
    exact ht h2

theorem ef_append {x y : Operand} {t e : TypeId} {size bytes : Nat} (hT : AppT P t e size bytes) {base k c g : Nat} {v : Value} {j : Nat} {xs ns : List Value} {te : TypeId} (hown : w.ownsRow base e size v k xs) (hx : opv m x = some v)
    (hy : opv m y = some (.slice (some ⟨g, 0, none⟩) j c)) (hnb : Blk w g te ns.toArray) (hl : ns.length = j * size) (h1 : ns.all (·.oneCell) = true) (hn : k + j ≤ maxLen) (hbytes : (k + j) * bytes ≤ 140737488355328) (hbase : base ≤ w.heap.size) :
    Ef P m ⟨dst, .call ⟨.builtin .append, #[x, y], #[t, t]⟩, ty, pos, af, gd⟩ w fun r W => ∃ v', r = some v' ∧ W.ownsRow base e size v' (k + j) (xs ++ ns) ∧ Ext (ownB v) w W ∧ (∀ q ∈ ownB v', q ∈ ownB v ∨ w.heap.size ≤ q) := fun ρ hρ => by
  obtain ⟨i, z, hi, hz, hs, hb, hzs, hsz⟩ := hT.ex
  have hc : ∀ (q : Nat) (u : Value), ns[q]? = some u → w.cell? ((⟨g, 0, none⟩ : Addr).add q) = some u := fun q u hu => by
    have e : ((⟨g, 0, none⟩ : Addr).add q) = ⟨g, q, none⟩ := by unfold Addr.add; split <;> simp_all
    rw [e, hnb.cell q]; simpa using hu
  obtain ⟨v', w', hr, h2, h3, h4, h5⟩ := run_append_own_at (P := P) w base t ty e i z size bytes hT.ht hi hz hs hb hzs hsz v k xs hown ⟨g, 0, none⟩ j c ns hl hc (fun u hu => by
    have := List.all_eq_true.1 h1 u hu
    cases u <;> simp_all [Value.oneCell, Value.oneCell']) hn hbytes hbase
  refine .inl ⟨v', w', ?_, v', rfl, h2, Ext.of_grown h3, fun q hq => ?_⟩
  · simp only [execOp, resolve, invoke, builtin, Sem.run_bind, Sem.run_pure, Result.andThen_ok, List.map_toArray, List.map_cons, List.map_nil, hρ.get hx, hρ.get hy, hr]
  · rcases h5 with h5 | h5
    · exact .inl (by simpa [ownB, h5] using hq)
    · simp [ownB, h5] at hq
      exact .inr (by omega)

theorem ef_new {op : Op} {t : TypeId} {cs : List Value} (vf : Nat → Value) (h : St X w0 w M) (hk : allKnown m op.operands.toList = true) (hs : notSelect op = true)
    (hrun : ∀ w, (execOp (rho m) ⟨dst, op, ty, pos, af, gd⟩).run P w = .ok (.value (vf w.heap.size)) (w.alloc (.cells cs.toArray t))) :
    Ef P m ⟨dst, op, ty, pos, af, gd⟩ w fun r W => ∃ g, r = some (vf g) ∧ w0.heap.size ≤ g ∧ w.heap.size ≤ g ∧ St X w0 W ((g, t, cs) :: M) ∧ Ext [] w W := fun ρ hρ => by
  refine .inl ⟨_, _, ?_, w.heap.size, rfl, h.ext.size, Nat.le_refl _, h.push t cs, (Ext.refl [] w).alloc _⟩
  rw [exec_rho hρ hk hs]
  exact hrun w
theorem St.sub0 (h : St X w0 w M) : St X w0 w [] := h.sub [] (List.nil_sublist _)
/-- The slice v is the call's own: X holds its row, or it was made behind w0; it has these k elements. -/
structure Acc (w0 : World) (X : List Nat) (w : World) (e : TypeId) (size : Nat) (v : Value) (k : Nat) (xs : List Value) : Prop where
  own : w.ownsRow 0 e size v k xs
  inn : ∀ q ∈ ownB v, q ∈ X ∨ w0.heap.size ≤ q
theorem Acc.ext {Y : List Nat} {e : TypeId} {size k : Nat} {v : Value} {xs : List Value} (h : Acc w0 X w e size v k xs) (hx : Ext Y w w') (hY : ∀ g ∈ ownB v, g ∉ Y) : Acc w0 X w' e size v k xs := ⟨ownsRow.ext h.own hx hY, h.inn⟩
theorem Acc.drew {e : TypeId} {size k : Nat} {v : Value} {xs : List Value} (h : Acc w0 X w e size v k xs) : Acc w0 X w.drew e size v k xs := h.ext (Ext.refl [] w).drew (by simp)
theorem Acc.self {e : TypeId} {size k : Nat} {v : Value} {xs : List Value} (h : Acc w0 X w e size v k xs) : Acc w (ownB v) w e size v k xs := ⟨h.own, fun _ h => .inl h⟩
theorem Acc.call {e : TypeId} {size k k' : Nat} {v u : Value} {xs xs' : List Value} (h : Acc w0 X w e size v k xs) (st : St X w0 w M) (hb : Acc w (ownB v) w' e size u k' xs') : Acc w0 X w' e size u k' xs' :=
  ⟨hb.own, fun q hq => (hb.inn q hq).elim (h.inn q) fun h => .inr (Nat.le_trans st.ext.size h)⟩
theorem Acc.nil (w0 : World) (X : List Nat) (w : World) (e : TypeId) (size : Nat) : Acc w0 X w e size (.slice none 0 0) 0 [] := ⟨World.ownsRow_nil w 0 e size, by simp [ownB, Value.ownBlock]⟩
theorem Acc.not_blk {e : TypeId} {size k : Nat} {v : Value} {xs : List Value} (h : Acc w0 X w e size v k xs) {g : Nat} {t : TypeId} {cs : Array Value} (hb : Blk w g t cs) (ht : e ≠ t) : ∀ q ∈ ownB v, q ∉ [g] := by
  intro q hq hm
  simp only [List.mem_singleton] at hm; subst hm
  exact ownsRow.not_blk h.own hb ht hq
theorem ef_app {x y : Operand} {t e : TypeId} {size bytes : Nat} (hT : AppT P t e size bytes) {k c g : Nat} {v : Value} {j : Nat} {xs ns : List Value} {te : TypeId} (st : St X w0 w M) (ha : Acc w0 X w e size v k xs) (hx : opv m x = some v)
    (hy : opv m y = some (.slice (some ⟨g, 0, none⟩) j c)) (i : Nat) (hi : M[i]? = some (g, te, ns)) (hl : ns.length = j * size) (h1 : ns.all (·.oneCell) = true) (hn : k + j ≤ maxLen) (hbytes : (k + j) * bytes ≤ 140737488355328) :
    Ef P m ⟨dst, .call ⟨.builtin .append, #[x, y], #[t, t]⟩, ty, pos, af, gd⟩ w fun r W => ∃ v', r = some v' ∧ Acc w0 X W e size v' (k + j) (xs ++ ns) ∧ St X w0 W [] ∧ Ext (ownB v) w W := fun ρ hρ => by
  rcases ef_append (dst := dst) (ty := ty) (pos := pos) (af := af) (gd := gd) hT ha.own hx hy (st.get i hi) hl h1 hn hbytes (Nat.zero_le _) ρ hρ with ⟨u, w', hr, v', e, h2, h3, h4⟩ | ⟨w', hr, v', e, _⟩ | ⟨f, args, hr, hc⟩
  · refine .inl ⟨u, w', hr, v', e, ⟨h2, fun q hq => (h4 q hq).elim (ha.inn q) fun h => .inr (Nat.le_trans st.ext.size h)⟩, st.sub0.call h3 (by simp) ha.inn, h3⟩
  · cases e
  · refine .inr (.inr ⟨f, args, hr, hc.mono ?_⟩)
    rintro e w' ⟨v, rfl, v', he, h2, h3, h4⟩
    exact ⟨v, rfl, v', he, ⟨h2, fun q hq => (h4 q hq).elim (ha.inn q) fun h => .inr (Nat.le_trans st.ext.size h)⟩, st.sub0.call h3 (by simp) ha.inn, h3⟩
/-- the block behind a slice -/
def sp : Option Addr → Nat
  | some a => a.block
  | none => 0
theorem ownsRow.form' {base : Nat} {e : TypeId} {size k : Nat} {v : Value} {xs : List Value} (h : w.ownsRow base e size v k xs) : ∃ b c, v = .slice b k c := by
  rcases h.2 with ⟨rfl, rfl⟩ | ⟨g, cap, cur, rfl, _⟩
  · exact ⟨_, _, rfl⟩
  · exact ⟨_, _, rfl⟩
theorem ownsRow.some_ {base : Nat} {e : TypeId} {size k c : Nat} {b : Option Addr} {xs : List Value} (h : w.ownsRow base e size (.slice b k c) k xs) (hk : 0 < k) :
    b = some ⟨sp b, 0, none⟩ ∧ ∃ cur, w.heap[sp b]? = some (.cells cur e (0, 0)) ∧ cur.toList.take (k * size) = xs := by
  rcases h.2 with ⟨hv, rfl⟩ | ⟨g, cap, cur, hv, _, h1, _, _, _, h2⟩
  · omega
  · injection hv with hv _ _
    subst hv
    exact ⟨rfl, cur, h1, h2⟩
/-- what it takes to index a slice -/
structure IdxT (P : Program) (t e : TypeId) (size : Nat) : Prop where
  u : P.underlying t = some (.slice e)
  s : ∀ w, (sizeOf e).run P w = .ok size w
theorem ev_index {t e : TypeId} {size base k c : Nat} {b : Option Addr} {xs : List Value} {x ix : Operand} {i : Int} (hT : IdxT P t e size) (hx : opv m x = some (.slice b k c)) (hi : opv m ix = some (.int .i64 i))
    (hown : w.ownsRow base e size (.slice b k c) k xs) (h0 : 0 ≤ i) (hk : i < (k : Nat)) : Ev P m ⟨dst, .indexAddr t x ix, ty, pos, af, gd⟩ w (.pointer (some ⟨sp b, i.toNat * size, none⟩)) := fun ρ hρ => by
  obtain ⟨hb, _⟩ := ownsRow.some_ hown (by omega)
  simp only [execOp, hρ.get hx, hρ.get hi]
  rw [hb]
  have hs := hT.s w
  simp [Instr.indexAt, asIntOf, run_underlying hT.u, h0, hk, hs, Addr.add, sp]
  exact fun h => h.symm
theorem ev_indexN {t e : TypeId} {size base k c : Nat} {b : Option Addr} {xs : List Value} {x ix : Operand} {i : Nat} (hT : IdxT P t e size) (hx : opv m x = some (.slice b k c)) (hi : opv m ix = some (.int .i64 (i : Nat)))
    (hown : w.ownsRow base e size (.slice b k c) k xs) (hk : i < k) : Ev P m ⟨dst, .indexAddr t x ix, ty, pos, af, gd⟩ w (.pointer (some ⟨sp b, i * size, none⟩)) := by
  have := ev_index (dst := dst) (ty := ty) (pos := pos) (af := af) (gd := gd) hT hx hi hown (by omega) (by omega)
  simpa using this
theorem run_loadRow {g : Nat} {e : TypeId} {cur : Array Value} (hb : w.heap[g]? = some (.cells cur e (0, 0))) : ∀ (k i j : Nat) (acc : Array Value), i + j + k ≤ cur.size → (loadCellsFrom ⟨g, i, none⟩ j k acc).run P w = .ok (acc ++ ((cur.toList.drop (i + j)).take k).toArray) w := fun k i j acc h => by
  have hB : Blk w g e cur.toList.toArray := by simpa [Blk] using hb
  exact run_loadCellsFrom hB k i j acc (by simpa using h)
theorem ownsRow.load {e : TypeId} {size base k c : Nat} {b : Option Addr} {xs vs : List Value} {o q : Nat} {t : TypeId} (hA : Agg P t q) (hown : w.ownsRow base e size (.slice b k c) k xs) (hv : (xs.drop o).take q = vs) (hl : vs.length = q) (hq : 0 < q) :
    (Instr.loadAt t (.pointer (some ⟨sp b, o, none⟩))).run P w = .ok (.agg vs.toArray) w := by
  have hlen : o + q ≤ xs.length := by
    have := congrArg List.length hv
    simp only [List.length_take, List.length_drop] at this
    omega
  have hk : 0 < k := by
    have := hown.1
    rcases Nat.eq_zero_or_pos k with rfl | h
    · rw [Nat.zero_mul] at this; omega
    · exact h
  obtain ⟨_, cur, h1, h2⟩ := ownsRow.some_ hown hk
  have hcs : o + q ≤ cur.size := by
    have := congrArg List.length h2
    simp only [List.length_take, Array.length_toList] at this
    omega
  have hr := run_loadRow (P := P) h1 q o 0 #[] (by omega)
  have hd : (cur.toList.drop o).take q = vs := by
    rw [← hv, ← h2, List.drop_take, List.take_take]
    congr 1
    have := congrArg List.length h2
    simp only [List.length_take, Array.length_toList] at this
    omega
  simp only [Instr.loadAt, Instr.sureAddr, loadVar, loadCells]
  simp [hA.1 w, hA.2 w, hr, hd]
theorem ownsRow.load1 {e : TypeId} {size base k c : Nat} {b : Option Addr} {xs : List Value} {o : Nat} {t : TypeId} {v : Value} (hA : NAgg P t) (hown : w.ownsRow base e size (.slice b k c) k xs) (hv : xs[o]? = some v) :
    (Instr.loadAt t (.pointer (some ⟨sp b, o, none⟩))).run P w = .ok v w := by
  have ho : o < xs.length := (List.getElem?_eq_some_iff.1 hv).1
  have hk : 0 < k := by
    have := hown.1
    rcases Nat.eq_zero_or_pos k with rfl | h
    · rw [Nat.zero_mul] at this; omega
    · exact h
  obtain ⟨_, cur, h1, h2⟩ := ownsRow.some_ hown hk
  have hB : Blk w (sp b) e cur := h1
  have hc : w.cell? ⟨sp b, o, none⟩ = some v := by
    rw [hB.cell o, ← hv, ← h2]
    rw [List.getElem?_take]
    have := congrArg List.length h2
    simp only [List.length_take, Array.length_toList] at this
    rw [if_pos (by omega)]
    simp
  simp [Instr.loadAt, Instr.sureAddr, loadVar, hA w, load, Sem.run, hc]
end
theorem idxTal : IdxT Tryd.prog 182 32 3 := ⟨by kernel_rfl, size_32⟩
theorem idxEnt : IdxT Tryd.prog 22 61 5 := ⟨by kernel_rfl, size_61⟩
theorem idxPart : IdxT Tryd.prog 26 34 8 := ⟨by kernel_rfl, size_34⟩
theorem appTal : AppT Tryd.prog 182 32 3 24 := ⟨by kernel_rfl, Tryd.t32, .agg #[.int .i64 0, .int .u64 0, .int .u64 0], by kernel_rfl, by kernel_rfl, rfl, rfl, rfl, by decide⟩
theorem appEnt : AppT Tryd.prog 22 61 5 56 := ⟨by kernel_rfl, Tryd.t61, .agg #[.string ⟨#[]⟩, .int .i64 0, .int .i64 0, .string ⟨#[]⟩, .bool false], by kernel_rfl, by kernel_rfl, rfl, rfl, rfl, by decide⟩
end Go.Proofs.YtcopemgkjbaaeaaDoor
